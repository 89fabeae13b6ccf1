/- LawLitAsks, part 4: whatever the input, the law comes out true: our texts, joined by a tool, without what the claim does not name. -/
import Derived.Test.YtabhkocokojddaaPkLitAsks3
import Derived.Below
import Derived.Test.YtabhkocokojddaaRows
import Derived.WalkKit
import Derived.ProofKit
import Derived.OpenShut
import Derived.ShutString
import Derived.ChangeOld
import Derived.SizedLaws
set_option maxRecDepth 100000
set_option linter.unusedVariables false
namespace Go.Proofs.Ytabhkocokojddaa.Am
noncomputable section
open Go
theorem g81_l2_ok (k : Nat)  (a0 : (List Nat)) (a1 : Int) (a2 : Int) (a3 : Int)  : ∀ (n : Nat) (y2_0 : Int) (y2_1 : Int), Ok X81 g81p2 [(0, .str a0), (1, .int .i64 a1), (2, .int .i64 a2), (3, .int .i64 a3), (10, .int .i64 y2_0), (11, .int .i64 y2_1)] (mkH []) (g81_l2 k a0 a1 a2 a3 n y2_0 y2_1)
 | 0, _, _ => ok_none
 | n + 1, y2_0, y2_1 => by
  have ih := g81_l2_ok k a0 a1 a2 a3 n
  rw [g81_l2_s]
  refine ok_ent (p' := nav [0] g81p2) (by kernel_rfl) ?_
  let E2 : Env := [(15, .bool (decide (y2_1 < a3))), (14, .bool (decide (y2_1 < a3))), (13, .int .i64 a3), (12, .int .i64 y2_1), (0, .str a0), (1, .int .i64 a1), (2, .int .i64 a2), (3, .int .i64 a3), (10, .int .i64 y2_0), (11, .int .i64 y2_1)]
  refine oR 7 (p' := (atN 4 (ctl1 g81p3))) (eE := E2) (H' := (mkH [])) (by kernel_rfl) ?_
  refine oJ (f := fun (z3 : Bool × Int × Int) => if z3.1 then ((nthS a0 (fW .i64 (a1 + z3.2.2))).bind fun x1_7 => (g77 k x1_7 a2).bind fun x1_9 => (g81_l2 k a0 a1 a2 a3 n) (fW .i64 (fW .i64 (z3.2.1 * a2) + x1_9)) (fW .i64 (z3.2.2 + 1))) else (some (z3.2.1, z3.2.2))) g81p4 (fun (z3 : Bool × Int × Int) => [(0, .str a0), (1, .int .i64 a1), (2, .int .i64 a2), (3, .int .i64 a3), (10, .int .i64 z3.2.1), (11, .int .i64 z3.2.2), (32, .bool z3.1)]) (fun (z3 : Bool × Int × Int) => (mkH [])) (fun z3 => ?_) (fun j3 hj3 => ?_)
  ·refine oS 32 (b := z3.1) (by kernel_rfl) (fun hb => ?_) (fun hb => ?_)
   ·let E3 : Env := [(39, .int .i64 (fW .i64 (a1 + z3.2.2))), (38, .int .i64 z3.2.2), (37, .int .i64 a1), (36, .str a0), (35, .int .i64 (fW .i64 (z3.2.1 * a2))), (34, .int .i64 a2), (33, .int .i64 z3.2.1), (32, .bool true), (0, .str a0), (1, .int .i64 a1), (2, .int .i64 a2), (3, .int .i64 a3), (10, .int .i64 z3.2.1), (11, .int .i64 z3.2.2), (32, .bool z3.1)]
    refine oR 12 (p' := (atN 7 (ctl1 g81p5))) (eE := E3) (H' := (mkH [])) (by kernel_rfl) ?_
    refine oH (fun (x1_7 : Int) => (.int .u8 x1_7, (mkH []))) (atN 8 (ctl1 g81p5)) (fun x1_7 => ((40, .int .u8 x1_7) :: E3)) (idxH (by kernel_rfl)) (fun _ => by kernel_rfl) (fun x1_7 hx1_7 => ?_)
    refine oR 1 (p' := (atN 9 (ctl1 g81p5))) (eE := ((41, .int .i64 a2) :: (40, .int .u8 x1_7) :: E3)) (H' := (mkH [])) (by kernel_rfl) ?_
    refine oC (fun (x1_9 : Int) => .int .i64 x1_9) (atN 10 (ctl1 g81p5)) (fun x1_9 => ((42, .int .i64 x1_9) :: (41, .int .i64 a2) :: (40, .int .u8 x1_7) :: E3)) (fi := 77) (args := [.int .u8 x1_7, .int .i64 a2]) (by kernel_rfl) (by kernel_rfl) (fun _ => by kernel_rfl) (fun r h => g77_ok k x1_7 a2 r h) (fun _ => by kernel_rfl) (fun x1_9 hx1_9 => ?_)
    let E4 : Env := ((10, .int .i64 (fW .i64 (fW .i64 (z3.2.1 * a2) + x1_9))) :: (43, .int .i64 (fW .i64 (fW .i64 (z3.2.1 * a2) + x1_9))) :: (42, .int .i64 x1_9) :: (41, .int .i64 a2) :: (40, .int .u8 x1_7) :: E3)
    refine oR 3 (p' := g81p7) (eE := E4) (H' := (mkH [])) (by kernel_rfl) ?_
    refine oK [0, 1, 2, 3, 10, 11] (eE := [(0, .str a0), (1, .int .i64 a1), (2, .int .i64 a2), (3, .int .i64 a3), (10, .int .i64 (fW .i64 (fW .i64 (z3.2.1 * a2) + x1_9))), (11, .int .i64 z3.2.2)]) (by kernel_rfl) ?_
    let E5 : Env := [(11, .int .i64 (fW .i64 (z3.2.2 + 1))), (45, .int .i64 (fW .i64 (z3.2.2 + 1))), (44, .int .i64 z3.2.2), (0, .str a0), (1, .int .i64 a1), (2, .int .i64 a2), (3, .int .i64 a3), (10, .int .i64 (fW .i64 (fW .i64 (z3.2.1 * a2) + x1_9))), (11, .int .i64 z3.2.2)]
    refine oR 5 (p' := g81p2) (eE := E5) (H' := (mkH [])) (by kernel_rfl) ?_
    refine oK [0, 1, 2, 3, 10, 11] (eE := [(0, .str a0), (1, .int .i64 a1), (2, .int .i64 a2), (3, .int .i64 a3), (10, .int .i64 (fW .i64 (fW .i64 (z3.2.1 * a2) + x1_9))), (11, .int .i64 (fW .i64 (z3.2.2 + 1)))]) (by kernel_rfl) ?_
    exact ih (fW .i64 (fW .i64 (z3.2.1 * a2) + x1_9)) (fW .i64 (z3.2.2 + 1))
   ·let E6 : Env := [(9, .int .i64 z3.2.2), (8, .int .i64 z3.2.1), (47, .int .i64 z3.2.2), (46, .int .i64 z3.2.1), (32, .bool false), (0, .str a0), (1, .int .i64 a1), (2, .int .i64 a2), (3, .int .i64 a3), (10, .int .i64 z3.2.1), (11, .int .i64 z3.2.2), (32, .bool z3.1)]
    refine oR 10 (p' := .fin) (eE := E6) (H' := (mkH [])) (by kernel_rfl) ?_
    exact oT (r := (z3.2.1, z3.2.2)) (xs := [.int .i64 z3.2.1, .int .i64 z3.2.2]) (v := .tuple [.int .i64 z3.2.1, .int .i64 z3.2.2]) (by kernel_rfl) (by kernel_rfl) (by kernel_rfl) (.pures (by kernel_rfl)) (by kernel_rfl)
  ·refine oS 15 (b := decide (y2_1 < a3)) (by kernel_rfl) (fun hb => ?_) (fun hb => ?_)
   ·let E7 : Env := ((23, .bool (decide (fW .i64 (a1 + y2_1) < (a0.length : Int)))) :: (22, .bool (decide (fW .i64 (a1 + y2_1) < (a0.length : Int)))) :: (21, .bool (decide (fW .i64 (a1 + y2_1) < (a0.length : Int)))) :: (20, .int .i64 (a0.length : Int)) :: (19, .str a0) :: (18, .int .i64 (fW .i64 (a1 + y2_1))) :: (17, .int .i64 y2_1) :: (16, .int .i64 a1) :: (15, .bool true) :: E2)
    refine oR 8 (p' := (atN 12 (ctl1 g81p3))) (eE := E7) (H' := (mkH [])) (by kernel_rfl) ?_
    refine oS 23 (b := decide (fW .i64 (a1 + y2_1) < (a0.length : Int))) (by kernel_rfl) (fun hb => ?_) (fun hb => ?_)
    ·let E8 : Env := ((27, .int .i64 (fW .i64 (a1 + y2_1))) :: (26, .int .i64 y2_1) :: (25, .int .i64 a1) :: (24, .str a0) :: (23, .bool true) :: E7)
     refine oR 4 (p' := (atN 16 (ctl1 g81p3))) (eE := E8) (H' := (mkH [])) (by kernel_rfl) ?_
     refine oH (fun (x0_16 : Int) => (.int .u8 x0_16, (mkH []))) (atN 17 (ctl1 g81p3)) (fun x0_16 => ((28, .int .u8 x0_16) :: E8)) (idxH (by kernel_rfl)) (fun _ => by kernel_rfl) (fun x0_16 hx0_16 => ?_)
     refine oR 1 (p' := (atN 18 (ctl1 g81p3))) (eE := ((29, .int .i64 a2) :: (28, .int .u8 x0_16) :: E8)) (H' := (mkH [])) (by kernel_rfl) ?_
     refine oC (fun (x0_18 : Int) => .int .i64 x0_18) (atN 19 (ctl1 g81p3)) (fun x0_18 => ((30, .int .i64 x0_18) :: (29, .int .i64 a2) :: (28, .int .u8 x0_16) :: E8)) (fi := 77) (args := [.int .u8 x0_16, .int .i64 a2]) (by kernel_rfl) (by kernel_rfl) (fun _ => by kernel_rfl) (fun r h => g77_ok k x0_16 a2 r h) (fun _ => by kernel_rfl) (fun x0_18 hx0_18 => ?_)
     let E9 : Env := ((32, .bool (decide (0 ≤ x0_18))) :: (31, .bool (decide (0 ≤ x0_18))) :: (30, .int .i64 x0_18) :: (29, .int .i64 a2) :: (28, .int .u8 x0_16) :: E8)
     refine oR 3 (p' := g81p4) (eE := E9) (H' := (mkH [])) (by kernel_rfl) ?_
     refine oK [0, 1, 2, 3, 10, 11, 32] (eE := [(0, .str a0), (1, .int .i64 a1), (2, .int .i64 a2), (3, .int .i64 a3), (10, .int .i64 y2_0), (11, .int .i64 y2_1), (32, .bool (decide (0 ≤ x0_18)))]) (by kernel_rfl) ?_
     exact hj3 (decide (0 ≤ x0_18), y2_0, y2_1)
    ·let E10 : Env := ((32, .bool false) :: (31, .tuple []) :: (30, .tuple []) :: (29, .tuple []) :: (28, .tuple []) :: (27, .tuple []) :: (26, .tuple []) :: (25, .tuple []) :: (24, .tuple []) :: (23, .bool false) :: E7)
     refine oR 10 (p' := g81p4) (eE := E10) (H' := (mkH [])) (by kernel_rfl) ?_
     refine oK [0, 1, 2, 3, 10, 11, 32] (eE := [(0, .str a0), (1, .int .i64 a1), (2, .int .i64 a2), (3, .int .i64 a3), (10, .int .i64 y2_0), (11, .int .i64 y2_1), (32, .bool false)]) (by kernel_rfl) ?_
     exact hj3 (false, y2_0, y2_1)
   ·let E11 : Env := ((32, .bool false) :: (31, .tuple []) :: (30, .tuple []) :: (29, .tuple []) :: (28, .tuple []) :: (27, .tuple []) :: (26, .tuple []) :: (25, .tuple []) :: (24, .tuple []) :: (23, .bool false) :: (22, .bool false) :: (21, .tuple []) :: (20, .tuple []) :: (19, .tuple []) :: (18, .tuple []) :: (17, .tuple []) :: (16, .tuple []) :: (15, .bool false) :: E2)
    refine oR 18 (p' := g81p4) (eE := E11) (H' := (mkH [])) (by kernel_rfl) ?_
    refine oK [0, 1, 2, 3, 10, 11, 32] (eE := [(0, .str a0), (1, .int .i64 a1), (2, .int .i64 a2), (3, .int .i64 a3), (10, .int .i64 y2_0), (11, .int .i64 y2_1), (32, .bool false)]) (by kernel_rfl) ?_
    exact hj3 (false, y2_0, y2_1)
def g81 (k : Nat) (a0 : (List Nat)) (a1 : Int) (a2 : Int) (a3 : Int) : Option (Int × Int) :=
 g81_l2 k a0 a1 a2 a3 k 0 0
theorem g81_ok (k : Nat) (a0 : (List Nat)) (a1 : Int) (a2 : Int) (a3 : Int) (r : (Int × Int)) (h : g81 k a0 a1 a2 a3 = some r) : PureOk Try.prog 81 [.str a0, .int .i64 a1, .int .i64 a2, .int .i64 a3] (.tuple [.int .i64 r.1, .int .i64 r.2]) := by
 refine pure_of X81 (fun _ => rfl) Try.func81 (by decide +kernel) (by kernel_rfl) (t := g81 k a0 a1 a2 a3) ?_ h
 unfold g81
 refine oE (eE := [(0, .str a0), (1, .int .i64 a1), (2, .int .i64 a2), (3, .int .i64 a3)]) (by kernel_rfl) ?_
 let E1 : Env := [(11, .int .i64 0), (10, .int .i64 0), (9, .int .i64 0), (8, .int .i64 0), (0, .str a0), (1, .int .i64 a1), (2, .int .i64 a2), (3, .int .i64 a3)]
 refine oR 13 (p' := g81p2) (eE := E1) (H' := (mkH [])) (by kernel_rfl) ?_
 refine oK [0, 1, 2, 3, 10, 11] (eE := [(0, .str a0), (1, .int .i64 a1), (2, .int .i64 a2), (3, .int .i64 a3), (10, .int .i64 0), (11, .int .i64 0)]) (by kernel_rfl) ?_
 exact (g81_l2_ok k a0 a1 a2 a3 k) 0 0
end
end Go.Proofs.Ytabhkocokojddaa.Am
set_option maxRecDepth 100000
set_option linter.unusedVariables false
namespace Go.Proofs.Ytabhkocokojddaa.Am
noncomputable section
open Go
def X42 : Fx (Int × Int) := ⟨Try.prog, cx, Try.f42, fun r => .tuple [.int .i64 r.1, .int .i64 r.2], 0, fun _ => H0, cxTi, cxOrd⟩
def g42c0 : List Int := [(8 : Int), (127 : Int), (27 : Int), (12 : Int), (10 : Int), (13 : Int), (32 : Int), (9 : Int), (11 : Int)]
def g42c1 : List Nat := [98, 100, 101, 102, 110, 114, 115, 116, 118]
def g42p0 : Pt := nav [0] (bodyAt Try.f42)
def g42p1 : Pt := nav [0, 0, 0, 0] g42p0
def g42p2 : Pt := nav [0, 0] g42p1
def g42p4 : Pt := nav [2, 0, 0] g42p2
def g42p6 : Pt := nav [0, 0, 0] g42p4
def g42p7 : Pt := nav [0, 0, 0, 0] g42p6
def g42p8 : Pt := nav [0, 0, 0, 0] g42p7
def g42p9 : Pt := nav [0, 0, 0] g42p8
def g42p10 : Pt := nav [0, 0] g42p9
def g42p11 : Pt := nav [1, 0, 0, 0, 0] g42p10
def g42p12 : Pt := nav [2, 0, 0, 0, 0] g42p10
def g42p13 : Pt := nav [0, 0] g42p11
def g42p14 : Pt := nav [0, 0] g42p12
def g42p15 : Pt := nav [1, 0] g42p13
def g42p17 : Pt := nav [1, 0] g42p14
def g42p18 : Pt := nav [2, 0] g42p14
def g42p19 : Pt := nav [0, 0, 0] g42p17
def g42p20 : Pt := nav [0, 0] g42p18
def g42p21 : Pt := nav [1, 0] g42p20
def g42p22 : Pt := nav [2, 0] g42p20
def g42p23 : Pt := nav [0, 0, 0, 0] g42p21
def g42p24 : Pt := nav [0, 0] g42p22
def g42p25 : Pt := nav [0, 0] g42p23
def g42p26 : Pt := nav [1, 0] g42p24
def g42p27 : Pt := nav [2, 0] g42p24
def g42p30 : Pt := nav [0, 0, 0, 0] g42p26
def g42p31 : Pt := nav [0, 0] g42p27
def g42p32 : Pt := nav [0, 0] g42p30
def g42p33 : Pt := nav [1, 0, 0] g42p31
def g42p34 : Pt := nav [2, 0, 0] g42p31
def g42p37 : Pt := nav [0, 0] g42p33
def g42p38 : Pt := nav [0, 0, 0, 0] g42p34
def g42p40 : Pt := nav [2, 0, 0] g42p37
def g42p41 : Pt := nav [0, 0] g42p38
def g42_l13 (k : Nat)  (a0 : (List Nat)) (a1 : Int) (x1_3 : Int) (n : Nat) : Int → Option (Int × Int) :=
 Nat.rec (motive := fun _ => Int → Option (Int × Int)) (fun _ => none) (fun _ ih => fun (y13_0 : Int) => if (decide (y13_0 < 9)) then ((nthS g42c1 y13_0).bind fun x3_2 => if (decide (x3_2 = x1_3)) then ((nthL g42c0 y13_0).bind fun x2_2 => some (x2_2, (2 : Int))) else (ih (fW .i64 (y13_0 + 1)))) else (jn (fun (z14 : Bool) => if z14 then ((g81 k a0 (fW .i64 (a1 + 1)) (8 : Int) (3 : Int)).bind fun x4_3 => some (x4_3.1, fW .i64 (1 + x4_3.2))) else (jn (fun (z15 : Bool) => if z15 then ((g81 k a0 (fW .i64 (a1 + 3)) (16 : Int) (6 : Int)).bind fun x6_3 => jn (fun (z16 : Bool) => if z16 then (some (((-1) : Int), (0 : Int))) else (some (x6_3.1, fW .i64 (4 + x6_3.2)))) (fun j16 => if (decide (x6_3.2 = 0)) then (j16 true) else (if (decide ((a0.length : Int) ≤ fW .i64 (fW .i64 (a1 + 3) + x6_3.2))) then (j16 true) else ((nthS a0 (fW .i64 (fW .i64 (a1 + 3) + x6_3.2))).bind fun x7_17 => if (!decide (x7_17 = 125)) then (j16 true) else ((g82 k x6_3.1).bind fun x7_22 => j16 (!x7_22)))))) else (if (decide (x1_3 = 120)) then ((g81 k a0 (fW .i64 (a1 + 2)) (16 : Int) (2 : Int)).bind fun x8_3 => if (decide (x8_3.2 < 2)) then (some (((-1) : Int), (0 : Int))) else (some (x8_3.1, (4 : Int)))) else (if (decide (x1_3 = 94)) then (jn (fun (z17 : Bool) => if z17 then (some (((-1) : Int), (0 : Int))) else ((nthS a0 (fW .i64 (a1 + 2))).bind fun x11_3 => some (andI .i64 (fW .i64 x11_3) 31, (3 : Int)))) (fun j17 => if (decide ((a0.length : Int) ≤ fW .i64 (a1 + 2))) then (j17 true) else ((nthS a0 (fW .i64 (a1 + 2))).bind fun x9_9 => if (decide (64 ≤ x9_9)) then ((nthS a0 (fW .i64 (a1 + 2))).bind fun x9_15 => if (decide (x9_15 ≤ 95)) then (j17 false) else ((nthS a0 (fW .i64 (a1 + 2))).bind fun x9_22 => if (decide (97 ≤ x9_22)) then ((nthS a0 (fW .i64 (a1 + 2))).bind fun x9_28 => j17 (!(decide (x9_28 ≤ 122)))) else (j17 true))) else ((nthS a0 (fW .i64 (a1 + 2))).bind fun x9_22 => if (decide (97 ≤ x9_22)) then ((nthS a0 (fW .i64 (a1 + 2))).bind fun x9_28 => j17 (!(decide (x9_28 ≤ 122)))) else (j17 true))))) else ((g72 k a0 (fW .i64 (a1 + 1))).bind fun x10_3 => if (decide (x10_3.1 < 32)) then (some (((-1) : Int), (0 : Int))) else (some (x10_3.1, fW .i64 (1 + x10_3.2))))))) (fun j15 => if (decide (x1_3 = 120)) then (if (decide (fW .i64 (a1 + 2) < (a0.length : Int))) then ((nthS a0 (fW .i64 (a1 + 2))).bind fun x5_13 => j15 (decide (x5_13 = 123))) else (j15 false)) else (j15 false)))) (fun j14 => if (decide (48 ≤ x1_3)) then (j14 (decide (x1_3 ≤ 55))) else (j14 false)))) n
theorem g42_l13_s (k : Nat)  (a0 : (List Nat)) (a1 : Int) (x1_3 : Int) (n : Nat) (y13_0 : Int) : g42_l13 k a0 a1 x1_3 (n + 1) y13_0 = (if (decide (y13_0 < 9)) then ((nthS g42c1 y13_0).bind fun x3_2 => if (decide (x3_2 = x1_3)) then ((nthL g42c0 y13_0).bind fun x2_2 => some (x2_2, (2 : Int))) else ((g42_l13 k a0 a1 x1_3 n) (fW .i64 (y13_0 + 1)))) else (jn (fun (z14 : Bool) => if z14 then ((g81 k a0 (fW .i64 (a1 + 1)) (8 : Int) (3 : Int)).bind fun x4_3 => some (x4_3.1, fW .i64 (1 + x4_3.2))) else (jn (fun (z15 : Bool) => if z15 then ((g81 k a0 (fW .i64 (a1 + 3)) (16 : Int) (6 : Int)).bind fun x6_3 => jn (fun (z16 : Bool) => if z16 then (some (((-1) : Int), (0 : Int))) else (some (x6_3.1, fW .i64 (4 + x6_3.2)))) (fun j16 => if (decide (x6_3.2 = 0)) then (j16 true) else (if (decide ((a0.length : Int) ≤ fW .i64 (fW .i64 (a1 + 3) + x6_3.2))) then (j16 true) else ((nthS a0 (fW .i64 (fW .i64 (a1 + 3) + x6_3.2))).bind fun x7_17 => if (!decide (x7_17 = 125)) then (j16 true) else ((g82 k x6_3.1).bind fun x7_22 => j16 (!x7_22)))))) else (if (decide (x1_3 = 120)) then ((g81 k a0 (fW .i64 (a1 + 2)) (16 : Int) (2 : Int)).bind fun x8_3 => if (decide (x8_3.2 < 2)) then (some (((-1) : Int), (0 : Int))) else (some (x8_3.1, (4 : Int)))) else (if (decide (x1_3 = 94)) then (jn (fun (z17 : Bool) => if z17 then (some (((-1) : Int), (0 : Int))) else ((nthS a0 (fW .i64 (a1 + 2))).bind fun x11_3 => some (andI .i64 (fW .i64 x11_3) 31, (3 : Int)))) (fun j17 => if (decide ((a0.length : Int) ≤ fW .i64 (a1 + 2))) then (j17 true) else ((nthS a0 (fW .i64 (a1 + 2))).bind fun x9_9 => if (decide (64 ≤ x9_9)) then ((nthS a0 (fW .i64 (a1 + 2))).bind fun x9_15 => if (decide (x9_15 ≤ 95)) then (j17 false) else ((nthS a0 (fW .i64 (a1 + 2))).bind fun x9_22 => if (decide (97 ≤ x9_22)) then ((nthS a0 (fW .i64 (a1 + 2))).bind fun x9_28 => j17 (!(decide (x9_28 ≤ 122)))) else (j17 true))) else ((nthS a0 (fW .i64 (a1 + 2))).bind fun x9_22 => if (decide (97 ≤ x9_22)) then ((nthS a0 (fW .i64 (a1 + 2))).bind fun x9_28 => j17 (!(decide (x9_28 ≤ 122)))) else (j17 true))))) else ((g72 k a0 (fW .i64 (a1 + 1))).bind fun x10_3 => if (decide (x10_3.1 < 32)) then (some (((-1) : Int), (0 : Int))) else (some (x10_3.1, fW .i64 (1 + x10_3.2))))))) (fun j15 => if (decide (x1_3 = 120)) then (if (decide (fW .i64 (a1 + 2) < (a0.length : Int))) then ((nthS a0 (fW .i64 (a1 + 2))).bind fun x5_13 => j15 (decide (x5_13 = 123))) else (j15 false)) else (j15 false)))) (fun j14 => if (decide (48 ≤ x1_3)) then (j14 (decide (x1_3 ≤ 55))) else (j14 false)))) := rfl
theorem g42_l13_ok (k : Nat)  (a0 : (List Nat)) (a1 : Int) (x1_3 : Int)  : ∀ (n : Nat) (y13_0 : Int), Ok X42 g42p8 [(0, .str a0), (1, .int .i64 a1), (6, .int .u8 x1_3), (7, .str g42c1), (8, .vec (g42c0).length 1 ((g42c0).flatMap e3)), (9, .int .i64 y13_0)] (mkH []) (g42_l13 k a0 a1 x1_3 n y13_0)
 | 0, _ => ok_none
 | n + 1, y13_0 => by
  have ih := g42_l13_ok k a0 a1 x1_3 n
  rw [g42_l13_s]
  refine ok_ent (p' := nav [0] g42p8) (by kernel_rfl) ?_
  let E5 : Env := [(41, .bool (decide (y13_0 < 9))), (40, .int .i64 9), (39, .str g42c1), (38, .int .i64 y13_0), (0, .str a0), (1, .int .i64 a1), (6, .int .u8 x1_3), (7, .str g42c1), (8, .vec (g42c0).length 1 ((g42c0).flatMap e3)), (9, .int .i64 y13_0)]
  refine oR 8 (p' := g42p10) (eE := E5) (H' := (mkH [])) (by kernel_rfl) ?_
  refine oS 41 (b := decide (y13_0 < 9)) (by kernel_rfl) (fun hb => ?_) (fun hb => ?_)
  ·refine oR 8 (p' := (atN 2 (ctl1 g42p11))) (eE := ((45, .int .i64 y13_0) :: (44, .str g42c1) :: (41, .bool true) :: E5)) (H' := (mkH [])) (by kernel_rfl) ?_
   refine oH (fun (x3_2 : Int) => (.int .u8 x3_2, (mkH []))) (atN 3 (ctl1 g42p11)) (fun x3_2 => ((46, .int .u8 x3_2) :: (45, .int .i64 y13_0) :: (44, .str g42c1) :: (41, .bool true) :: E5)) (idxH (by kernel_rfl)) (fun _ => by kernel_rfl) (fun x3_2 hx3_2 => ?_)
   let E6 : Env := ((48, .bool (decide (x3_2 = x1_3))) :: (47, .int .u8 x1_3) :: (46, .int .u8 x3_2) :: (45, .int .i64 y13_0) :: (44, .str g42c1) :: (41, .bool true) :: E5)
   refine oR 3 (p' := g42p13) (eE := E6) (H' := (mkH [])) (by kernel_rfl) ?_
   refine oK [0, 1, 6, 7, 8, 9, 48] (eE := [(0, .str a0), (1, .int .i64 a1), (6, .int .u8 x1_3), (7, .str g42c1), (8, .vec (g42c0).length 1 ((g42c0).flatMap e3)), (9, .int .i64 y13_0), (48, .bool (decide (x3_2 = x1_3)))]) (by kernel_rfl) ?_
   refine oS 48 (b := decide (x3_2 = x1_3)) (by kernel_rfl) (fun hb => ?_) (fun hb => ?_)
   ·let E7 : Env := [(50, .int .i64 y13_0), (49, .vec (g42c0).length 1 ((g42c0).flatMap e3)), (48, .bool true), (0, .str a0), (1, .int .i64 a1), (6, .int .u8 x1_3), (7, .str g42c1), (8, .vec (g42c0).length 1 ((g42c0).flatMap e3)), (9, .int .i64 y13_0), (48, .bool (decide (x3_2 = x1_3)))]
    refine oR 5 (p' := (atN 2 (ctl1 g42p15))) (eE := E7) (H' := (mkH [])) (by kernel_rfl) ?_
    refine oH (fun (x2_2 : Int) => (.vptr [.int .i64 x2_2], (mkH []))) (atN 3 (ctl1 g42p15)) (fun x2_2 => ((51, .vptr [.int .i64 x2_2]) :: E7)) (vidxH (sz := 1) e3_len (by kernel_rfl)) (fun _ => by kernel_rfl) (fun x2_2 hx2_2 => ?_)
    refine oR 5 (p' := .fin) (eE := ((5, .int .i64 2) :: (4, .int .i64 x2_2) :: (52, .int .i64 x2_2) :: (51, .vptr [.int .i64 x2_2]) :: E7)) (H' := (mkH [])) (by kernel_rfl) ?_
    exact oT (r := (x2_2, (2 : Int))) (xs := [.int .i64 x2_2, .int .i64 2]) (v := .tuple [.int .i64 x2_2, .int .i64 2]) (by kernel_rfl) (by kernel_rfl) (by kernel_rfl) (.pures (by kernel_rfl)) (by kernel_rfl)
   ·let E8 : Env := [(9, .int .i64 (fW .i64 (y13_0 + 1))), (43, .int .i64 (fW .i64 (y13_0 + 1))), (42, .int .i64 y13_0), (48, .bool false), (0, .str a0), (1, .int .i64 a1), (6, .int .u8 x1_3), (7, .str g42c1), (8, .vec (g42c0).length 1 ((g42c0).flatMap e3)), (9, .int .i64 y13_0), (48, .bool (decide (x3_2 = x1_3)))]
    refine oR 7 (p' := g42p8) (eE := E8) (H' := (mkH [])) (by kernel_rfl) ?_
    refine oK [0, 1, 6, 7, 8, 9] (eE := [(0, .str a0), (1, .int .i64 a1), (6, .int .u8 x1_3), (7, .str g42c1), (8, .vec (g42c0).length 1 ((g42c0).flatMap e3)), (9, .int .i64 (fW .i64 (y13_0 + 1)))]) (by kernel_rfl) ?_
    exact ih (fW .i64 (y13_0 + 1))
  ·refine oR 9 (p' := (atN 3 (ctl1 g42p12))) (eE := ((56, .bool (decide (48 ≤ x1_3))) :: (55, .bool (decide (48 ≤ x1_3))) :: (54, .int .u8 x1_3) :: (41, .bool false) :: E5)) (H' := (mkH [])) (by kernel_rfl) ?_
   refine oJ (f := fun (z14 : Bool) => if z14 then ((g81 k a0 (fW .i64 (a1 + 1)) (8 : Int) (3 : Int)).bind fun x4_3 => some (x4_3.1, fW .i64 (1 + x4_3.2))) else (jn (fun (z15 : Bool) => if z15 then ((g81 k a0 (fW .i64 (a1 + 3)) (16 : Int) (6 : Int)).bind fun x6_3 => jn (fun (z16 : Bool) => if z16 then (some (((-1) : Int), (0 : Int))) else (some (x6_3.1, fW .i64 (4 + x6_3.2)))) (fun j16 => if (decide (x6_3.2 = 0)) then (j16 true) else (if (decide ((a0.length : Int) ≤ fW .i64 (fW .i64 (a1 + 3) + x6_3.2))) then (j16 true) else ((nthS a0 (fW .i64 (fW .i64 (a1 + 3) + x6_3.2))).bind fun x7_17 => if (!decide (x7_17 = 125)) then (j16 true) else ((g82 k x6_3.1).bind fun x7_22 => j16 (!x7_22)))))) else (if (decide (x1_3 = 120)) then ((g81 k a0 (fW .i64 (a1 + 2)) (16 : Int) (2 : Int)).bind fun x8_3 => if (decide (x8_3.2 < 2)) then (some (((-1) : Int), (0 : Int))) else (some (x8_3.1, (4 : Int)))) else (if (decide (x1_3 = 94)) then (jn (fun (z17 : Bool) => if z17 then (some (((-1) : Int), (0 : Int))) else ((nthS a0 (fW .i64 (a1 + 2))).bind fun x11_3 => some (andI .i64 (fW .i64 x11_3) 31, (3 : Int)))) (fun j17 => if (decide ((a0.length : Int) ≤ fW .i64 (a1 + 2))) then (j17 true) else ((nthS a0 (fW .i64 (a1 + 2))).bind fun x9_9 => if (decide (64 ≤ x9_9)) then ((nthS a0 (fW .i64 (a1 + 2))).bind fun x9_15 => if (decide (x9_15 ≤ 95)) then (j17 false) else ((nthS a0 (fW .i64 (a1 + 2))).bind fun x9_22 => if (decide (97 ≤ x9_22)) then ((nthS a0 (fW .i64 (a1 + 2))).bind fun x9_28 => j17 (!(decide (x9_28 ≤ 122)))) else (j17 true))) else ((nthS a0 (fW .i64 (a1 + 2))).bind fun x9_22 => if (decide (97 ≤ x9_22)) then ((nthS a0 (fW .i64 (a1 + 2))).bind fun x9_28 => j17 (!(decide (x9_28 ≤ 122)))) else (j17 true))))) else ((g72 k a0 (fW .i64 (a1 + 1))).bind fun x10_3 => if (decide (x10_3.1 < 32)) then (some (((-1) : Int), (0 : Int))) else (some (x10_3.1, fW .i64 (1 + x10_3.2))))))) (fun j15 => if (decide (x1_3 = 120)) then (if (decide (fW .i64 (a1 + 2) < (a0.length : Int))) then ((nthS a0 (fW .i64 (a1 + 2))).bind fun x5_13 => j15 (decide (x5_13 = 123))) else (j15 false)) else (j15 false)))) g42p14 (fun (z14 : Bool) => [(0, .str a0), (1, .int .i64 a1), (6, .int .u8 x1_3), (53, .bool z14)]) (fun (z14 : Bool) => (mkH [])) (fun z14 => ?_) (fun j14 hj14 => ?_)
   ·refine oS 53 (b := z14) (by kernel_rfl) (fun hb => ?_) (fun hb => ?_)
    ·let E9 : Env := [(63, .int .i64 (fW .i64 (a1 + 1))), (62, .int .i64 a1), (61, .str a0), (53, .bool true), (0, .str a0), (1, .int .i64 a1), (6, .int .u8 x1_3), (53, .bool z14)]
     refine oR 6 (p' := (atN 3 (ctl1 g42p17))) (eE := E9) (H' := (mkH [])) (by kernel_rfl) ?_
     refine oC (fun (x4_3 : (Int × Int)) => .tuple [.int .i64 x4_3.1, .int .i64 x4_3.2]) (atN 4 (ctl1 g42p17)) (fun x4_3 => ((64, .tuple [.int .i64 x4_3.1, .int .i64 x4_3.2]) :: E9)) (fi := 81) (args := [.str a0, .int .i64 (fW .i64 (a1 + 1)), .int .i64 8, .int .i64 3]) (by kernel_rfl) (by kernel_rfl) (fun _ => by kernel_rfl) (fun r h => g81_ok k a0 (fW .i64 (a1 + 1)) (8 : Int) (3 : Int) r h) (fun _ => by kernel_rfl) (fun x4_3 hx4_3 => ?_)
     let E10 : Env := ((11, .int .i64 x4_3.2) :: (10, .int .i64 x4_3.1) :: (66, .int .i64 x4_3.2) :: (65, .int .i64 x4_3.1) :: (60, .tuple [.int .i64 x4_3.1, .int .i64 x4_3.2]) :: (64, .tuple [.int .i64 x4_3.1, .int .i64 x4_3.2]) :: E9)
     refine oR 7 (p' := g42p19) (eE := E10) (H' := (mkH [])) (by kernel_rfl) ?_
     refine oK [10, 11] (eE := [(10, .int .i64 x4_3.1), (11, .int .i64 x4_3.2)]) (by kernel_rfl) ?_
     let E11 : Env := [(5, .int .i64 (fW .i64 (1 + x4_3.2))), (4, .int .i64 x4_3.1), (69, .int .i64 (fW .i64 (1 + x4_3.2))), (68, .int .i64 x4_3.2), (67, .int .i64 x4_3.1), (10, .int .i64 x4_3.1), (11, .int .i64 x4_3.2)]
     refine oR 8 (p' := .fin) (eE := E11) (H' := (mkH [])) (by kernel_rfl) ?_
     exact oT (r := (x4_3.1, fW .i64 (1 + x4_3.2))) (xs := [.int .i64 x4_3.1, .int .i64 (fW .i64 (1 + x4_3.2))]) (v := .tuple [.int .i64 x4_3.1, .int .i64 (fW .i64 (1 + x4_3.2))]) (by kernel_rfl) (by kernel_rfl) (by kernel_rfl) (.pures (by kernel_rfl)) (by kernel_rfl)
    ·let E12 : Env := [(73, .bool (decide (x1_3 = 120))), (72, .bool (decide (x1_3 = 120))), (71, .int .u8 x1_3), (53, .bool false), (0, .str a0), (1, .int .i64 a1), (6, .int .u8 x1_3), (53, .bool z14)]
     refine oR 6 (p' := (atN 3 (ctl1 g42p18))) (eE := E12) (H' := (mkH [])) (by kernel_rfl) ?_
     refine oJ (f := fun (z15 : Bool) => if z15 then ((g81 k a0 (fW .i64 (a1 + 3)) (16 : Int) (6 : Int)).bind fun x6_3 => jn (fun (z16 : Bool) => if z16 then (some (((-1) : Int), (0 : Int))) else (some (x6_3.1, fW .i64 (4 + x6_3.2)))) (fun j16 => if (decide (x6_3.2 = 0)) then (j16 true) else (if (decide ((a0.length : Int) ≤ fW .i64 (fW .i64 (a1 + 3) + x6_3.2))) then (j16 true) else ((nthS a0 (fW .i64 (fW .i64 (a1 + 3) + x6_3.2))).bind fun x7_17 => if (!decide (x7_17 = 125)) then (j16 true) else ((g82 k x6_3.1).bind fun x7_22 => j16 (!x7_22)))))) else (if (decide (x1_3 = 120)) then ((g81 k a0 (fW .i64 (a1 + 2)) (16 : Int) (2 : Int)).bind fun x8_3 => if (decide (x8_3.2 < 2)) then (some (((-1) : Int), (0 : Int))) else (some (x8_3.1, (4 : Int)))) else (if (decide (x1_3 = 94)) then (jn (fun (z17 : Bool) => if z17 then (some (((-1) : Int), (0 : Int))) else ((nthS a0 (fW .i64 (a1 + 2))).bind fun x11_3 => some (andI .i64 (fW .i64 x11_3) 31, (3 : Int)))) (fun j17 => if (decide ((a0.length : Int) ≤ fW .i64 (a1 + 2))) then (j17 true) else ((nthS a0 (fW .i64 (a1 + 2))).bind fun x9_9 => if (decide (64 ≤ x9_9)) then ((nthS a0 (fW .i64 (a1 + 2))).bind fun x9_15 => if (decide (x9_15 ≤ 95)) then (j17 false) else ((nthS a0 (fW .i64 (a1 + 2))).bind fun x9_22 => if (decide (97 ≤ x9_22)) then ((nthS a0 (fW .i64 (a1 + 2))).bind fun x9_28 => j17 (!(decide (x9_28 ≤ 122)))) else (j17 true))) else ((nthS a0 (fW .i64 (a1 + 2))).bind fun x9_22 => if (decide (97 ≤ x9_22)) then ((nthS a0 (fW .i64 (a1 + 2))).bind fun x9_28 => j17 (!(decide (x9_28 ≤ 122)))) else (j17 true))))) else ((g72 k a0 (fW .i64 (a1 + 1))).bind fun x10_3 => if (decide (x10_3.1 < 32)) then (some (((-1) : Int), (0 : Int))) else (some (x10_3.1, fW .i64 (1 + x10_3.2))))))) g42p20 (fun (z15 : Bool) => [(0, .str a0), (1, .int .i64 a1), (6, .int .u8 x1_3), (70, .bool z15)]) (fun (z15 : Bool) => (mkH [])) (fun z15 => ?_) (fun j15 hj15 => ?_)
     ·refine oS 70 (b := z15) (by kernel_rfl) (fun hb => ?_) (fun hb => ?_)
      ·let E13 : Env := [(90, .int .i64 (fW .i64 (a1 + 3))), (89, .int .i64 a1), (88, .str a0), (70, .bool true), (0, .str a0), (1, .int .i64 a1), (6, .int .u8 x1_3), (70, .bool z15)]
       refine oR 6 (p' := (atN 3 (ctl1 g42p21))) (eE := E13) (H' := (mkH [])) (by kernel_rfl) ?_
       refine oC (fun (x6_3 : (Int × Int)) => .tuple [.int .i64 x6_3.1, .int .i64 x6_3.2]) (atN 4 (ctl1 g42p21)) (fun x6_3 => ((91, .tuple [.int .i64 x6_3.1, .int .i64 x6_3.2]) :: E13)) (fi := 81) (args := [.str a0, .int .i64 (fW .i64 (a1 + 3)), .int .i64 16, .int .i64 6]) (by kernel_rfl) (by kernel_rfl) (fun _ => by kernel_rfl) (fun r h => g81_ok k a0 (fW .i64 (a1 + 3)) (16 : Int) (6 : Int) r h) (fun _ => by kernel_rfl) (fun x6_3 hx6_3 => ?_)
       let E14 : Env := ((13, .int .i64 x6_3.2) :: (12, .int .i64 x6_3.1) :: (93, .int .i64 x6_3.2) :: (92, .int .i64 x6_3.1) :: (87, .tuple [.int .i64 x6_3.1, .int .i64 x6_3.2]) :: (91, .tuple [.int .i64 x6_3.1, .int .i64 x6_3.2]) :: E13)
       refine oR 8 (p' := g42p23) (eE := E14) (H' := (mkH [])) (by kernel_rfl) ?_
       refine oK [0, 1, 12, 13] (eE := [(0, .str a0), (1, .int .i64 a1), (12, .int .i64 x6_3.1), (13, .int .i64 x6_3.2)]) (by kernel_rfl) ?_
       let E15 : Env := [(96, .bool (decide (x6_3.2 = 0))), (95, .bool (decide (x6_3.2 = 0))), (94, .int .i64 x6_3.2), (0, .str a0), (1, .int .i64 a1), (12, .int .i64 x6_3.1), (13, .int .i64 x6_3.2)]
       refine oR 4 (p' := (atN 3 (ctl1 g42p23))) (eE := E15) (H' := (mkH [])) (by kernel_rfl) ?_
       refine oJ (f := fun (z16 : Bool) => if z16 then (some (((-1) : Int), (0 : Int))) else (some (x6_3.1, fW .i64 (4 + x6_3.2)))) g42p25 (fun (z16 : Bool) => [(12, .int .i64 x6_3.1), (13, .int .i64 x6_3.2), (118, .bool z16)]) (fun (z16 : Bool) => (mkH [])) (fun z16 => ?_) (fun j16 hj16 => ?_)
       ·refine oS 118 (b := z16) (by kernel_rfl) (fun hb => ?_) (fun hb => ?_)
        ·let E16 : Env := [(5, .int .i64 0), (4, .int .i64 (-1)), (118, .bool true), (12, .int .i64 x6_3.1), (13, .int .i64 x6_3.2), (118, .bool z16)]
         refine oR 7 (p' := .fin) (eE := E16) (H' := (mkH [])) (by kernel_rfl) ?_
         exact oT (r := (((-1) : Int), (0 : Int))) (xs := [.int .i64 (-1), .int .i64 0]) (v := .tuple [.int .i64 (-1), .int .i64 0]) (by kernel_rfl) (by kernel_rfl) (by kernel_rfl) (.pures (by kernel_rfl)) (by kernel_rfl)
        ·let E17 : Env := [(5, .int .i64 (fW .i64 (4 + x6_3.2))), (4, .int .i64 x6_3.1), (121, .int .i64 (fW .i64 (4 + x6_3.2))), (120, .int .i64 x6_3.2), (119, .int .i64 x6_3.1), (118, .bool false), (12, .int .i64 x6_3.1), (13, .int .i64 x6_3.2), (118, .bool z16)]
         refine oR 11 (p' := .fin) (eE := E17) (H' := (mkH [])) (by kernel_rfl) ?_
         exact oT (r := (x6_3.1, fW .i64 (4 + x6_3.2))) (xs := [.int .i64 x6_3.1, .int .i64 (fW .i64 (4 + x6_3.2))]) (v := .tuple [.int .i64 x6_3.1, .int .i64 (fW .i64 (4 + x6_3.2))]) (by kernel_rfl) (by kernel_rfl) (by kernel_rfl) (.pures (by kernel_rfl)) (by kernel_rfl)
       ·refine oS 96 (b := decide (x6_3.2 = 0)) (by kernel_rfl) (fun hb => ?_) (fun hb => ?_)
        ·let E18 : Env := ((118, .bool true) :: (117, .tuple []) :: (116, .tuple []) :: (115, .tuple []) :: (114, .bool true) :: (113, .bool true) :: (112, .tuple []) :: (111, .tuple []) :: (110, .tuple []) :: (109, .tuple []) :: (108, .tuple []) :: (107, .tuple []) :: (106, .tuple []) :: (105, .bool true) :: (104, .bool true) :: (103, .tuple []) :: (102, .tuple []) :: (101, .tuple []) :: (100, .tuple []) :: (99, .tuple []) :: (98, .tuple []) :: (97, .tuple []) :: (96, .bool true) :: E15)
         refine oR 23 (p' := g42p25) (eE := E18) (H' := (mkH [])) (by kernel_rfl) ?_
         refine oK [12, 13, 118] (eE := [(12, .int .i64 x6_3.1), (13, .int .i64 x6_3.2), (118, .bool true)]) (by kernel_rfl) ?_
         exact hj16 true
        ·let E19 : Env := ((105, .bool (decide ((a0.length : Int) ≤ fW .i64 (fW .i64 (a1 + 3) + x6_3.2)))) :: (104, .bool (decide ((a0.length : Int) ≤ fW .i64 (fW .i64 (a1 + 3) + x6_3.2)))) :: (103, .bool (decide ((a0.length : Int) ≤ fW .i64 (fW .i64 (a1 + 3) + x6_3.2)))) :: (102, .int .i64 (a0.length : Int)) :: (101, .str a0) :: (100, .int .i64 (fW .i64 (fW .i64 (a1 + 3) + x6_3.2))) :: (99, .int .i64 x6_3.2) :: (98, .int .i64 (fW .i64 (a1 + 3))) :: (97, .int .i64 a1) :: (96, .bool false) :: E15)
         refine oR 9 (p' := (atN 12 (ctl1 g42p23))) (eE := E19) (H' := (mkH [])) (by kernel_rfl) ?_
         refine oS 105 (b := decide ((a0.length : Int) ≤ fW .i64 (fW .i64 (a1 + 3) + x6_3.2))) (by kernel_rfl) (fun hb => ?_) (fun hb => ?_)
         ·let E20 : Env := ((118, .bool true) :: (117, .tuple []) :: (116, .tuple []) :: (115, .tuple []) :: (114, .bool true) :: (113, .bool true) :: (112, .tuple []) :: (111, .tuple []) :: (110, .tuple []) :: (109, .tuple []) :: (108, .tuple []) :: (107, .tuple []) :: (106, .tuple []) :: (105, .bool true) :: E19)
          refine oR 14 (p' := g42p25) (eE := E20) (H' := (mkH [])) (by kernel_rfl) ?_
          refine oK [12, 13, 118] (eE := [(12, .int .i64 x6_3.1), (13, .int .i64 x6_3.2), (118, .bool true)]) (by kernel_rfl) ?_
          exact hj16 true
         ·let E21 : Env := ((110, .int .i64 (fW .i64 (fW .i64 (a1 + 3) + x6_3.2))) :: (109, .int .i64 x6_3.2) :: (108, .int .i64 (fW .i64 (a1 + 3))) :: (107, .int .i64 a1) :: (106, .str a0) :: (105, .bool false) :: E19)
          refine oR 5 (p' := (atN 17 (ctl1 g42p23))) (eE := E21) (H' := (mkH [])) (by kernel_rfl) ?_
          refine oH (fun (x7_17 : Int) => (.int .u8 x7_17, (mkH []))) (atN 18 (ctl1 g42p23)) (fun x7_17 => ((111, .int .u8 x7_17) :: E21)) (idxH (by kernel_rfl)) (fun _ => by kernel_rfl) (fun x7_17 hx7_17 => ?_)
          refine oR 3 (p' := (atN 21 (ctl1 g42p23))) (eE := ((114, .bool (!decide (x7_17 = 125))) :: (113, .bool (!decide (x7_17 = 125))) :: (112, .bool (!decide (x7_17 = 125))) :: (111, .int .u8 x7_17) :: E21)) (H' := (mkH [])) (by kernel_rfl) ?_
          refine oS 114 (b := !decide (x7_17 = 125)) (by kernel_rfl) (fun hb => ?_) (fun hb => ?_)
          ·let E22 : Env := ((118, .bool true) :: (117, .tuple []) :: (116, .tuple []) :: (115, .tuple []) :: (114, .bool true) :: (114, .bool (!decide (x7_17 = 125))) :: (113, .bool (!decide (x7_17 = 125))) :: (112, .bool (!decide (x7_17 = 125))) :: (111, .int .u8 x7_17) :: E21)
           refine oR 5 (p' := g42p25) (eE := E22) (H' := (mkH [])) (by kernel_rfl) ?_
           refine oK [12, 13, 118] (eE := [(12, .int .i64 x6_3.1), (13, .int .i64 x6_3.2), (118, .bool true)]) (by kernel_rfl) ?_
           exact hj16 true
          ·let E23 : Env := ((115, .int .i64 x6_3.1) :: (114, .bool false) :: (114, .bool (!decide (x7_17 = 125))) :: (113, .bool (!decide (x7_17 = 125))) :: (112, .bool (!decide (x7_17 = 125))) :: (111, .int .u8 x7_17) :: E21)
           refine oR 1 (p' := (atN 22 (ctl1 g42p23))) (eE := E23) (H' := (mkH [])) (by kernel_rfl) ?_
           refine oC (fun (x7_22 : Bool) => .bool x7_22) (atN 23 (ctl1 g42p23)) (fun x7_22 => ((116, .bool x7_22) :: E23)) (fi := 82) (args := [.int .i64 x6_3.1]) (by kernel_rfl) (by kernel_rfl) (fun _ => by kernel_rfl) (fun r h => g82_ok k x6_3.1 r h) (fun _ => by kernel_rfl) (fun x7_22 hx7_22 => ?_)
           refine oR 3 (p' := g42p25) (eE := ((118, .bool (!x7_22)) :: (117, .bool (!x7_22)) :: (116, .bool x7_22) :: E23)) (H' := (mkH [])) (by kernel_rfl) ?_
           refine oK [12, 13, 118] (eE := [(12, .int .i64 x6_3.1), (13, .int .i64 x6_3.2), (118, .bool (!x7_22))]) (by kernel_rfl) ?_
           exact hj16 (!x7_22)
      ·let E24 : Env := [(122, .bool (decide (x1_3 = 120))), (124, .bool (decide (x1_3 = 120))), (123, .int .u8 x1_3), (70, .bool false), (0, .str a0), (1, .int .i64 a1), (6, .int .u8 x1_3), (70, .bool z15)]
       refine oR 7 (p' := g42p24) (eE := E24) (H' := (mkH [])) (by kernel_rfl) ?_
       refine oS 122 (b := decide (x1_3 = 120)) (by kernel_rfl) (fun hb => ?_) (fun hb => ?_)
       ·refine oR 6 (p' := (atN 3 (ctl1 g42p26))) (eE := ((128, .int .i64 (fW .i64 (a1 + 2))) :: (127, .int .i64 a1) :: (126, .str a0) :: (122, .bool true) :: E24)) (H' := (mkH [])) (by kernel_rfl) ?_
        refine oC (fun (x8_3 : (Int × Int)) => .tuple [.int .i64 x8_3.1, .int .i64 x8_3.2]) (atN 4 (ctl1 g42p26)) (fun x8_3 => ((129, .tuple [.int .i64 x8_3.1, .int .i64 x8_3.2]) :: (128, .int .i64 (fW .i64 (a1 + 2))) :: (127, .int .i64 a1) :: (126, .str a0) :: (122, .bool true) :: E24)) (fi := 81) (args := [.str a0, .int .i64 (fW .i64 (a1 + 2)), .int .i64 16, .int .i64 2]) (by kernel_rfl) (by kernel_rfl) (fun _ => by kernel_rfl) (fun r h => g81_ok k a0 (fW .i64 (a1 + 2)) (16 : Int) (2 : Int) r h) (fun _ => by kernel_rfl) (fun x8_3 hx8_3 => ?_)
        let E25 : Env := ((15, .int .i64 x8_3.2) :: (14, .int .i64 x8_3.1) :: (131, .int .i64 x8_3.2) :: (130, .int .i64 x8_3.1) :: (125, .tuple [.int .i64 x8_3.1, .int .i64 x8_3.2]) :: (129, .tuple [.int .i64 x8_3.1, .int .i64 x8_3.2]) :: (128, .int .i64 (fW .i64 (a1 + 2))) :: (127, .int .i64 a1) :: (126, .str a0) :: (122, .bool true) :: E24)
        refine oR 8 (p' := g42p30) (eE := E25) (H' := (mkH [])) (by kernel_rfl) ?_
        refine oK [14, 15] (eE := [(14, .int .i64 x8_3.1), (15, .int .i64 x8_3.2)]) (by kernel_rfl) ?_
        refine oR 4 (p' := g42p32) (eE := [(133, .bool (decide (x8_3.2 < 2))), (132, .int .i64 x8_3.2), (14, .int .i64 x8_3.1), (15, .int .i64 x8_3.2)]) (H' := (mkH [])) (by kernel_rfl) ?_
        refine oS 133 (b := decide (x8_3.2 < 2)) (by kernel_rfl) (fun hb => ?_) (fun hb => ?_)
        ·let E26 : Env := [(5, .int .i64 0), (4, .int .i64 (-1)), (133, .bool true), (133, .bool (decide (x8_3.2 < 2))), (132, .int .i64 x8_3.2), (14, .int .i64 x8_3.1), (15, .int .i64 x8_3.2)]
         refine oR 7 (p' := .fin) (eE := E26) (H' := (mkH [])) (by kernel_rfl) ?_
         exact oT (r := (((-1) : Int), (0 : Int))) (xs := [.int .i64 (-1), .int .i64 0]) (v := .tuple [.int .i64 (-1), .int .i64 0]) (by kernel_rfl) (by kernel_rfl) (by kernel_rfl) (.pures (by kernel_rfl)) (by kernel_rfl)
        ·let E27 : Env := [(5, .int .i64 4), (4, .int .i64 x8_3.1), (134, .int .i64 x8_3.1), (133, .bool false), (133, .bool (decide (x8_3.2 < 2))), (132, .int .i64 x8_3.2), (14, .int .i64 x8_3.1), (15, .int .i64 x8_3.2)]
         refine oR 9 (p' := .fin) (eE := E27) (H' := (mkH [])) (by kernel_rfl) ?_
         exact oT (r := (x8_3.1, (4 : Int))) (xs := [.int .i64 x8_3.1, .int .i64 4]) (v := .tuple [.int .i64 x8_3.1, .int .i64 4]) (by kernel_rfl) (by kernel_rfl) (by kernel_rfl) (.pures (by kernel_rfl)) (by kernel_rfl)
       ·refine oR 7 (p' := g42p31) (eE := ((135, .bool (decide (x1_3 = 94))) :: (137, .bool (decide (x1_3 = 94))) :: (136, .int .u8 x1_3) :: (122, .bool false) :: E24)) (H' := (mkH [])) (by kernel_rfl) ?_
        refine oK [0, 1, 135] (eE := [(0, .str a0), (1, .int .i64 a1), (135, .bool (decide (x1_3 = 94)))]) (by kernel_rfl) ?_
        refine oS 135 (b := decide (x1_3 = 94)) (by kernel_rfl) (fun hb => ?_) (fun hb => ?_)
        ·let E28 : Env := [(143, .bool (decide ((a0.length : Int) ≤ fW .i64 (a1 + 2)))), (142, .bool (decide ((a0.length : Int) ≤ fW .i64 (a1 + 2)))), (141, .int .i64 (a0.length : Int)), (140, .str a0), (139, .int .i64 (fW .i64 (a1 + 2))), (138, .int .i64 a1), (135, .bool true), (0, .str a0), (1, .int .i64 a1), (135, .bool (decide (x1_3 = 94)))]
         refine oR 10 (p' := (atN 6 (ctl1 g42p33))) (eE := E28) (H' := (mkH [])) (by kernel_rfl) ?_
         refine oJ (f := fun (z17 : Bool) => if z17 then (some (((-1) : Int), (0 : Int))) else ((nthS a0 (fW .i64 (a1 + 2))).bind fun x11_3 => some (andI .i64 (fW .i64 x11_3) 31, (3 : Int)))) g42p37 (fun (z17 : Bool) => [(0, .str a0), (1, .int .i64 a1), (171, .bool z17)]) (fun (z17 : Bool) => (mkH [])) (fun z17 => ?_) (fun j17 hj17 => ?_)
         ·refine oS 171 (b := z17) (by kernel_rfl) (fun hb => ?_) (fun hb => ?_)
          ·let E29 : Env := [(5, .int .i64 0), (4, .int .i64 (-1)), (171, .bool true), (0, .str a0), (1, .int .i64 a1), (171, .bool z17)]
           refine oR 7 (p' := .fin) (eE := E29) (H' := (mkH [])) (by kernel_rfl) ?_
           exact oT (r := (((-1) : Int), (0 : Int))) (xs := [.int .i64 (-1), .int .i64 0]) (v := .tuple [.int .i64 (-1), .int .i64 0]) (by kernel_rfl) (by kernel_rfl) (by kernel_rfl) (.pures (by kernel_rfl)) (by kernel_rfl)
          ·let E30 : Env := [(174, .int .i64 (fW .i64 (a1 + 2))), (173, .int .i64 a1), (172, .str a0), (171, .bool false), (0, .str a0), (1, .int .i64 a1), (171, .bool z17)]
           refine oR 7 (p' := (atN 3 (ctl1 g42p40))) (eE := E30) (H' := (mkH [])) (by kernel_rfl) ?_
           refine oH (fun (x11_3 : Int) => (.int .u8 x11_3, (mkH []))) (atN 4 (ctl1 g42p40)) (fun x11_3 => ((175, .int .u8 x11_3) :: E30)) (idxH (by kernel_rfl)) (fun _ => by kernel_rfl) (fun x11_3 hx11_3 => ?_)
           let E31 : Env := ((5, .int .i64 3) :: (4, .int .i64 (andI .i64 (fW .i64 x11_3) 31)) :: (177, .int .i64 (andI .i64 (fW .i64 x11_3) 31)) :: (176, .int .i64 (fW .i64 x11_3)) :: (175, .int .u8 x11_3) :: E30)
           refine oR 6 (p' := .fin) (eE := E31) (H' := (mkH [])) (by kernel_rfl) ?_
           exact oT (r := (andI .i64 (fW .i64 x11_3) 31, (3 : Int))) (xs := [.int .i64 (andI .i64 (fW .i64 x11_3) 31), .int .i64 3]) (v := .tuple [.int .i64 (andI .i64 (fW .i64 x11_3) 31), .int .i64 3]) (by kernel_rfl) (by kernel_rfl) (by kernel_rfl) (.pures (by kernel_rfl)) (by kernel_rfl)
         ·refine oS 143 (b := decide ((a0.length : Int) ≤ fW .i64 (a1 + 2))) (by kernel_rfl) (fun hb => ?_) (fun hb => ?_)
          ·let E32 : Env := ((171, .bool true) :: (170, .tuple []) :: (169, .tuple []) :: (168, .tuple []) :: (167, .tuple []) :: (166, .tuple []) :: (165, .tuple []) :: (164, .tuple []) :: (163, .tuple []) :: (162, .tuple []) :: (161, .tuple []) :: (160, .tuple []) :: (159, .tuple []) :: (158, .tuple []) :: (157, .tuple []) :: (156, .tuple []) :: (155, .tuple []) :: (154, .tuple []) :: (153, .tuple []) :: (152, .tuple []) :: (151, .tuple []) :: (150, .tuple []) :: (149, .tuple []) :: (148, .tuple []) :: (147, .tuple []) :: (146, .tuple []) :: (145, .tuple []) :: (144, .tuple []) :: (143, .bool true) :: E28)
           refine oR 29 (p' := g42p37) (eE := E32) (H' := (mkH [])) (by kernel_rfl) ?_
           refine oK [0, 1, 171] (eE := [(0, .str a0), (1, .int .i64 a1), (171, .bool true)]) (by kernel_rfl) ?_
           exact hj17 true
          ·refine oR 3 (p' := (atN 9 (ctl1 g42p33))) (eE := ((146, .int .i64 (fW .i64 (a1 + 2))) :: (145, .int .i64 a1) :: (144, .str a0) :: (143, .bool false) :: E28)) (H' := (mkH [])) (by kernel_rfl) ?_
           refine oH (fun (x9_9 : Int) => (.int .u8 x9_9, (mkH []))) (atN 10 (ctl1 g42p33)) (fun x9_9 => ((147, .int .u8 x9_9) :: (146, .int .i64 (fW .i64 (a1 + 2))) :: (145, .int .i64 a1) :: (144, .str a0) :: (143, .bool false) :: E28)) (idxH (by kernel_rfl)) (fun _ => by kernel_rfl) (fun x9_9 hx9_9 => ?_)
           let E33 : Env := ((149, .bool (decide (64 ≤ x9_9))) :: (148, .bool (decide (64 ≤ x9_9))) :: (147, .int .u8 x9_9) :: (146, .int .i64 (fW .i64 (a1 + 2))) :: (145, .int .i64 a1) :: (144, .str a0) :: (143, .bool false) :: E28)
           refine oR 2 (p' := (atN 12 (ctl1 g42p33))) (eE := E33) (H' := (mkH [])) (by kernel_rfl) ?_
           refine oS 149 (b := decide (64 ≤ x9_9)) (by kernel_rfl) (fun hb => ?_) (fun hb => ?_)
           ·refine oR 3 (p' := (atN 15 (ctl1 g42p33))) (eE := ((152, .int .i64 (fW .i64 (a1 + 2))) :: (151, .int .i64 a1) :: (150, .str a0) :: (149, .bool true) :: E33)) (H' := (mkH [])) (by kernel_rfl) ?_
            refine oH (fun (x9_15 : Int) => (.int .u8 x9_15, (mkH []))) (atN 16 (ctl1 g42p33)) (fun x9_15 => ((153, .int .u8 x9_15) :: (152, .int .i64 (fW .i64 (a1 + 2))) :: (151, .int .i64 a1) :: (150, .str a0) :: (149, .bool true) :: E33)) (idxH (by kernel_rfl)) (fun _ => by kernel_rfl) (fun x9_15 hx9_15 => ?_)
            let E34 : Env := ((156, .bool (decide (x9_15 ≤ 95))) :: (155, .bool (decide (x9_15 ≤ 95))) :: (154, .bool (decide (x9_15 ≤ 95))) :: (153, .int .u8 x9_15) :: (152, .int .i64 (fW .i64 (a1 + 2))) :: (151, .int .i64 a1) :: (150, .str a0) :: (149, .bool true) :: E33)
            refine oR 3 (p' := (atN 19 (ctl1 g42p33))) (eE := E34) (H' := (mkH [])) (by kernel_rfl) ?_
            refine oS 156 (b := decide (x9_15 ≤ 95)) (by kernel_rfl) (fun hb => ?_) (fun hb => ?_)
            ·let E35 : Env := ((171, .bool false) :: (170, .bool false) :: (169, .bool true) :: (168, .tuple []) :: (167, .tuple []) :: (166, .tuple []) :: (165, .tuple []) :: (164, .tuple []) :: (163, .tuple []) :: (162, .tuple []) :: (161, .tuple []) :: (160, .tuple []) :: (159, .tuple []) :: (158, .tuple []) :: (157, .tuple []) :: (156, .bool true) :: E34)
             refine oR 16 (p' := g42p37) (eE := E35) (H' := (mkH [])) (by kernel_rfl) ?_
             refine oK [0, 1, 171] (eE := [(0, .str a0), (1, .int .i64 a1), (171, .bool false)]) (by kernel_rfl) ?_
             exact hj17 false
            ·refine oR 3 (p' := (atN 22 (ctl1 g42p33))) (eE := ((159, .int .i64 (fW .i64 (a1 + 2))) :: (158, .int .i64 a1) :: (157, .str a0) :: (156, .bool false) :: E34)) (H' := (mkH [])) (by kernel_rfl) ?_
             refine oH (fun (x9_22 : Int) => (.int .u8 x9_22, (mkH []))) (atN 23 (ctl1 g42p33)) (fun x9_22 => ((160, .int .u8 x9_22) :: (159, .int .i64 (fW .i64 (a1 + 2))) :: (158, .int .i64 a1) :: (157, .str a0) :: (156, .bool false) :: E34)) (idxH (by kernel_rfl)) (fun _ => by kernel_rfl) (fun x9_22 hx9_22 => ?_)
             let E36 : Env := ((162, .bool (decide (97 ≤ x9_22))) :: (161, .bool (decide (97 ≤ x9_22))) :: (160, .int .u8 x9_22) :: (159, .int .i64 (fW .i64 (a1 + 2))) :: (158, .int .i64 a1) :: (157, .str a0) :: (156, .bool false) :: E34)
             refine oR 2 (p' := (atN 25 (ctl1 g42p33))) (eE := E36) (H' := (mkH [])) (by kernel_rfl) ?_
             refine oS 162 (b := decide (97 ≤ x9_22)) (by kernel_rfl) (fun hb => ?_) (fun hb => ?_)
             ·refine oR 3 (p' := (atN 28 (ctl1 g42p33))) (eE := ((165, .int .i64 (fW .i64 (a1 + 2))) :: (164, .int .i64 a1) :: (163, .str a0) :: (162, .bool true) :: E36)) (H' := (mkH [])) (by kernel_rfl) ?_
              refine oH (fun (x9_28 : Int) => (.int .u8 x9_28, (mkH []))) (atN 29 (ctl1 g42p33)) (fun x9_28 => ((166, .int .u8 x9_28) :: (165, .int .i64 (fW .i64 (a1 + 2))) :: (164, .int .i64 a1) :: (163, .str a0) :: (162, .bool true) :: E36)) (idxH (by kernel_rfl)) (fun _ => by kernel_rfl) (fun x9_28 hx9_28 => ?_)
              let E37 : Env := ((171, .bool (!(decide (x9_28 ≤ 122)))) :: (170, .bool (!(decide (x9_28 ≤ 122)))) :: (169, .bool (decide (x9_28 ≤ 122))) :: (168, .bool (decide (x9_28 ≤ 122))) :: (167, .bool (decide (x9_28 ≤ 122))) :: (166, .int .u8 x9_28) :: (165, .int .i64 (fW .i64 (a1 + 2))) :: (164, .int .i64 a1) :: (163, .str a0) :: (162, .bool true) :: E36)
              refine oR 6 (p' := g42p37) (eE := E37) (H' := (mkH [])) (by kernel_rfl) ?_
              refine oK [0, 1, 171] (eE := [(0, .str a0), (1, .int .i64 a1), (171, .bool (!(decide (x9_28 ≤ 122))))]) (by kernel_rfl) ?_
              exact hj17 (!(decide (x9_28 ≤ 122)))
             ·let E38 : Env := ((171, .bool true) :: (170, .bool true) :: (169, .bool false) :: (168, .bool false) :: (167, .tuple []) :: (166, .tuple []) :: (165, .tuple []) :: (164, .tuple []) :: (163, .tuple []) :: (162, .bool false) :: E36)
              refine oR 10 (p' := g42p37) (eE := E38) (H' := (mkH [])) (by kernel_rfl) ?_
              refine oK [0, 1, 171] (eE := [(0, .str a0), (1, .int .i64 a1), (171, .bool true)]) (by kernel_rfl) ?_
              exact hj17 true
           ·let E39 : Env := ((159, .int .i64 (fW .i64 (a1 + 2))) :: (158, .int .i64 a1) :: (157, .str a0) :: (156, .bool false) :: (155, .bool false) :: (154, .tuple []) :: (153, .tuple []) :: (152, .tuple []) :: (151, .tuple []) :: (150, .tuple []) :: (149, .bool false) :: E33)
            refine oR 10 (p' := (atN 22 (ctl1 g42p33))) (eE := E39) (H' := (mkH [])) (by kernel_rfl) ?_
            refine oH (fun (x9_22 : Int) => (.int .u8 x9_22, (mkH []))) (atN 23 (ctl1 g42p33)) (fun x9_22 => ((160, .int .u8 x9_22) :: E39)) (idxH (by kernel_rfl)) (fun _ => by kernel_rfl) (fun x9_22 hx9_22 => ?_)
            refine oR 2 (p' := (atN 25 (ctl1 g42p33))) (eE := ((162, .bool (decide (97 ≤ x9_22))) :: (161, .bool (decide (97 ≤ x9_22))) :: (160, .int .u8 x9_22) :: E39)) (H' := (mkH [])) (by kernel_rfl) ?_
            refine oS 162 (b := decide (97 ≤ x9_22)) (by kernel_rfl) (fun hb => ?_) (fun hb => ?_)
            ·let E40 : Env := ((165, .int .i64 (fW .i64 (a1 + 2))) :: (164, .int .i64 a1) :: (163, .str a0) :: (162, .bool true) :: (162, .bool (decide (97 ≤ x9_22))) :: (161, .bool (decide (97 ≤ x9_22))) :: (160, .int .u8 x9_22) :: E39)
             refine oR 3 (p' := (atN 28 (ctl1 g42p33))) (eE := E40) (H' := (mkH [])) (by kernel_rfl) ?_
             refine oH (fun (x9_28 : Int) => (.int .u8 x9_28, (mkH []))) (atN 29 (ctl1 g42p33)) (fun x9_28 => ((166, .int .u8 x9_28) :: E40)) (idxH (by kernel_rfl)) (fun _ => by kernel_rfl) (fun x9_28 hx9_28 => ?_)
             let E41 : Env := ((171, .bool (!(decide (x9_28 ≤ 122)))) :: (170, .bool (!(decide (x9_28 ≤ 122)))) :: (169, .bool (decide (x9_28 ≤ 122))) :: (168, .bool (decide (x9_28 ≤ 122))) :: (167, .bool (decide (x9_28 ≤ 122))) :: (166, .int .u8 x9_28) :: E40)
             refine oR 6 (p' := g42p37) (eE := E41) (H' := (mkH [])) (by kernel_rfl) ?_
             refine oK [0, 1, 171] (eE := [(0, .str a0), (1, .int .i64 a1), (171, .bool (!(decide (x9_28 ≤ 122))))]) (by kernel_rfl) ?_
             exact hj17 (!(decide (x9_28 ≤ 122)))
            ·let E42 : Env := ((171, .bool true) :: (170, .bool true) :: (169, .bool false) :: (168, .bool false) :: (167, .tuple []) :: (166, .tuple []) :: (165, .tuple []) :: (164, .tuple []) :: (163, .tuple []) :: (162, .bool false) :: (162, .bool (decide (97 ≤ x9_22))) :: (161, .bool (decide (97 ≤ x9_22))) :: (160, .int .u8 x9_22) :: E39)
             refine oR 10 (p' := g42p37) (eE := E42) (H' := (mkH [])) (by kernel_rfl) ?_
             refine oK [0, 1, 171] (eE := [(0, .str a0), (1, .int .i64 a1), (171, .bool true)]) (by kernel_rfl) ?_
             exact hj17 true
        ·let E43 : Env := [(181, .int .i64 (fW .i64 (a1 + 1))), (180, .int .i64 a1), (179, .str a0), (135, .bool false), (0, .str a0), (1, .int .i64 a1), (135, .bool (decide (x1_3 = 94)))]
         refine oR 7 (p' := (atN 3 (ctl1 g42p34))) (eE := E43) (H' := (mkH [])) (by kernel_rfl) ?_
         refine oC (fun (x10_3 : (Int × Int)) => .tuple [.int .i64 x10_3.1, .int .i64 x10_3.2]) (atN 4 (ctl1 g42p34)) (fun x10_3 => ((182, .tuple [.int .i64 x10_3.1, .int .i64 x10_3.2]) :: E43)) (fi := 72) (args := [.str a0, .int .i64 (fW .i64 (a1 + 1))]) (by kernel_rfl) (by kernel_rfl) (fun _ => by kernel_rfl) (fun r h => g72_ok k a0 (fW .i64 (a1 + 1)) r h) (fun _ => by kernel_rfl) (fun x10_3 hx10_3 => ?_)
         let E44 : Env := ((17, .int .i64 x10_3.2) :: (16, .int .i64 x10_3.1) :: (184, .int .i64 x10_3.2) :: (183, .int .i64 x10_3.1) :: (178, .tuple [.int .i64 x10_3.1, .int .i64 x10_3.2]) :: (182, .tuple [.int .i64 x10_3.1, .int .i64 x10_3.2]) :: E43)
         refine oR 8 (p' := g42p38) (eE := E44) (H' := (mkH [])) (by kernel_rfl) ?_
         refine oK [16, 17] (eE := [(16, .int .i64 x10_3.1), (17, .int .i64 x10_3.2)]) (by kernel_rfl) ?_
         refine oR 4 (p' := g42p41) (eE := [(186, .bool (decide (x10_3.1 < 32))), (185, .int .i64 x10_3.1), (16, .int .i64 x10_3.1), (17, .int .i64 x10_3.2)]) (H' := (mkH [])) (by kernel_rfl) ?_
         refine oS 186 (b := decide (x10_3.1 < 32)) (by kernel_rfl) (fun hb => ?_) (fun hb => ?_)
         ·let E45 : Env := [(5, .int .i64 0), (4, .int .i64 (-1)), (186, .bool true), (186, .bool (decide (x10_3.1 < 32))), (185, .int .i64 x10_3.1), (16, .int .i64 x10_3.1), (17, .int .i64 x10_3.2)]
          refine oR 7 (p' := .fin) (eE := E45) (H' := (mkH [])) (by kernel_rfl) ?_
          exact oT (r := (((-1) : Int), (0 : Int))) (xs := [.int .i64 (-1), .int .i64 0]) (v := .tuple [.int .i64 (-1), .int .i64 0]) (by kernel_rfl) (by kernel_rfl) (by kernel_rfl) (.pures (by kernel_rfl)) (by kernel_rfl)
         ·let E46 : Env := [(5, .int .i64 (fW .i64 (1 + x10_3.2))), (4, .int .i64 x10_3.1), (189, .int .i64 (fW .i64 (1 + x10_3.2))), (188, .int .i64 x10_3.2), (187, .int .i64 x10_3.1), (186, .bool false), (186, .bool (decide (x10_3.1 < 32))), (185, .int .i64 x10_3.1), (16, .int .i64 x10_3.1), (17, .int .i64 x10_3.2)]
          refine oR 11 (p' := .fin) (eE := E46) (H' := (mkH [])) (by kernel_rfl) ?_
          exact oT (r := (x10_3.1, fW .i64 (1 + x10_3.2))) (xs := [.int .i64 x10_3.1, .int .i64 (fW .i64 (1 + x10_3.2))]) (v := .tuple [.int .i64 x10_3.1, .int .i64 (fW .i64 (1 + x10_3.2))]) (by kernel_rfl) (by kernel_rfl) (by kernel_rfl) (.pures (by kernel_rfl)) (by kernel_rfl)
     ·refine oS 73 (b := decide (x1_3 = 120)) (by kernel_rfl) (fun hb => ?_) (fun hb => ?_)
      ·let E47 : Env := ((80, .bool (decide (fW .i64 (a1 + 2) < (a0.length : Int)))) :: (79, .bool (decide (fW .i64 (a1 + 2) < (a0.length : Int)))) :: (78, .bool (decide (fW .i64 (a1 + 2) < (a0.length : Int)))) :: (77, .int .i64 (a0.length : Int)) :: (76, .str a0) :: (75, .int .i64 (fW .i64 (a1 + 2))) :: (74, .int .i64 a1) :: (73, .bool true) :: E12)
       refine oR 7 (p' := (atN 10 (ctl1 g42p18))) (eE := E47) (H' := (mkH [])) (by kernel_rfl) ?_
       refine oS 80 (b := decide (fW .i64 (a1 + 2) < (a0.length : Int))) (by kernel_rfl) (fun hb => ?_) (fun hb => ?_)
       ·refine oR 3 (p' := (atN 13 (ctl1 g42p18))) (eE := ((83, .int .i64 (fW .i64 (a1 + 2))) :: (82, .int .i64 a1) :: (81, .str a0) :: (80, .bool true) :: E47)) (H' := (mkH [])) (by kernel_rfl) ?_
        refine oH (fun (x5_13 : Int) => (.int .u8 x5_13, (mkH []))) (atN 14 (ctl1 g42p18)) (fun x5_13 => ((84, .int .u8 x5_13) :: (83, .int .i64 (fW .i64 (a1 + 2))) :: (82, .int .i64 a1) :: (81, .str a0) :: (80, .bool true) :: E47)) (idxH (by kernel_rfl)) (fun _ => by kernel_rfl) (fun x5_13 hx5_13 => ?_)
        let E48 : Env := ((70, .bool (decide (x5_13 = 123))) :: (86, .bool (decide (x5_13 = 123))) :: (85, .bool (decide (x5_13 = 123))) :: (84, .int .u8 x5_13) :: (83, .int .i64 (fW .i64 (a1 + 2))) :: (82, .int .i64 a1) :: (81, .str a0) :: (80, .bool true) :: E47)
        refine oR 4 (p' := g42p20) (eE := E48) (H' := (mkH [])) (by kernel_rfl) ?_
        refine oK [0, 1, 6, 70] (eE := [(0, .str a0), (1, .int .i64 a1), (6, .int .u8 x1_3), (70, .bool (decide (x5_13 = 123)))]) (by kernel_rfl) ?_
        exact hj15 (decide (x5_13 = 123))
       ·let E49 : Env := ((70, .bool false) :: (86, .bool false) :: (85, .tuple []) :: (84, .tuple []) :: (83, .tuple []) :: (82, .tuple []) :: (81, .tuple []) :: (80, .bool false) :: E47)
        refine oR 8 (p' := g42p20) (eE := E49) (H' := (mkH [])) (by kernel_rfl) ?_
        refine oK [0, 1, 6, 70] (eE := [(0, .str a0), (1, .int .i64 a1), (6, .int .u8 x1_3), (70, .bool false)]) (by kernel_rfl) ?_
        exact hj15 false
      ·let E50 : Env := ((70, .bool false) :: (86, .bool false) :: (85, .tuple []) :: (84, .tuple []) :: (83, .tuple []) :: (82, .tuple []) :: (81, .tuple []) :: (80, .bool false) :: (79, .bool false) :: (78, .tuple []) :: (77, .tuple []) :: (76, .tuple []) :: (75, .tuple []) :: (74, .tuple []) :: (73, .bool false) :: E12)
       refine oR 15 (p' := g42p20) (eE := E50) (H' := (mkH [])) (by kernel_rfl) ?_
       refine oK [0, 1, 6, 70] (eE := [(0, .str a0), (1, .int .i64 a1), (6, .int .u8 x1_3), (70, .bool false)]) (by kernel_rfl) ?_
       exact hj15 false
   ·refine oS 56 (b := decide (48 ≤ x1_3)) (by kernel_rfl) (fun hb => ?_) (fun hb => ?_)
    ·let E51 : Env := ((53, .bool (decide (x1_3 ≤ 55))) :: (59, .bool (decide (x1_3 ≤ 55))) :: (58, .bool (decide (x1_3 ≤ 55))) :: (57, .int .u8 x1_3) :: (56, .bool true) :: (56, .bool (decide (48 ≤ x1_3))) :: (55, .bool (decide (48 ≤ x1_3))) :: (54, .int .u8 x1_3) :: (41, .bool false) :: E5)
     refine oR 5 (p' := g42p14) (eE := E51) (H' := (mkH [])) (by kernel_rfl) ?_
     refine oK [0, 1, 6, 53] (eE := [(0, .str a0), (1, .int .i64 a1), (6, .int .u8 x1_3), (53, .bool (decide (x1_3 ≤ 55)))]) (by kernel_rfl) ?_
     exact hj14 (decide (x1_3 ≤ 55))
    ·let E52 : Env := ((53, .bool false) :: (59, .bool false) :: (58, .tuple []) :: (57, .tuple []) :: (56, .bool false) :: (56, .bool (decide (48 ≤ x1_3))) :: (55, .bool (decide (48 ≤ x1_3))) :: (54, .int .u8 x1_3) :: (41, .bool false) :: E5)
     refine oR 5 (p' := g42p14) (eE := E52) (H' := (mkH [])) (by kernel_rfl) ?_
     refine oK [0, 1, 6, 53] (eE := [(0, .str a0), (1, .int .i64 a1), (6, .int .u8 x1_3), (53, .bool false)]) (by kernel_rfl) ?_
     exact hj14 false
def g42 (k : Nat) (a0 : (List Nat)) (a1 : Int) : Option (Int × Int) :=
 jn (fun (z12 : Bool) => if z12 then (some (((-1) : Int), (0 : Int))) else ((nthS a0 (fW .i64 (a1 + 1))).bind fun x1_3 => g42_l13 k a0 a1 x1_3 k 0)) (fun j12 => if (decide (a1 < 0)) then (j12 true) else (if (decide (fW .i64 ((a0.length : Int) - 1) ≤ a1)) then (j12 true) else ((nthS a0 a1).bind fun x0_12 => j12 (!decide (x0_12 = 92)))))
theorem g42_ok (k : Nat) (a0 : (List Nat)) (a1 : Int) (r : (Int × Int)) (h : g42 k a0 a1 = some r) : PureOk Try.prog 42 [.str a0, .int .i64 a1] (.tuple [.int .i64 r.1, .int .i64 r.2]) := by
 refine pure_of X42 (fun _ => rfl) Try.func42 (by decide +kernel) (by kernel_rfl) (t := g42 k a0 a1) ?_ h
 unfold g42
 refine oE (eE := [(0, .str a0), (1, .int .i64 a1)]) (by kernel_rfl) ?_
 let E1 : Env := [(20, .bool (decide (a1 < 0))), (19, .bool (decide (a1 < 0))), (18, .int .i64 a1), (5, .int .i64 0), (4, .int .i64 0), (0, .str a0), (1, .int .i64 a1)]
 refine oR 11 (p' := (atN 3 (ctl1 g42p1))) (eE := E1) (H' := (mkH [])) (by kernel_rfl) ?_
 refine oJ (f := fun (z12 : Bool) => if z12 then (some (((-1) : Int), (0 : Int))) else ((nthS a0 (fW .i64 (a1 + 1))).bind fun x1_3 => g42_l13 k a0 a1 x1_3 k 0)) g42p2 (fun (z12 : Bool) => [(0, .str a0), (1, .int .i64 a1), (32, .bool z12)]) (fun (z12 : Bool) => (mkH [])) (fun z12 => ?_) (fun j12 hj12 => ?_)
 ·refine oS 32 (b := z12) (by kernel_rfl) (fun hb => ?_) (fun hb => ?_)
  ·let E2 : Env := [(5, .int .i64 0), (4, .int .i64 (-1)), (32, .bool true), (0, .str a0), (1, .int .i64 a1), (32, .bool z12)]
   refine oR 7 (p' := .fin) (eE := E2) (H' := (mkH [])) (by kernel_rfl) ?_
   exact oT (r := (((-1) : Int), (0 : Int))) (xs := [.int .i64 (-1), .int .i64 0]) (v := .tuple [.int .i64 (-1), .int .i64 0]) (by kernel_rfl) (by kernel_rfl) (by kernel_rfl) (.pures (by kernel_rfl)) (by kernel_rfl)
  ·let E3 : Env := [(35, .int .i64 (fW .i64 (a1 + 1))), (34, .int .i64 a1), (33, .str a0), (32, .bool false), (0, .str a0), (1, .int .i64 a1), (32, .bool z12)]
   refine oR 7 (p' := (atN 3 (ctl1 g42p4))) (eE := E3) (H' := (mkH [])) (by kernel_rfl) ?_
   refine oH (fun (x1_3 : Int) => (.int .u8 x1_3, (mkH []))) (atN 4 (ctl1 g42p4)) (fun x1_3 => ((36, .int .u8 x1_3) :: E3)) (idxH (by kernel_rfl)) (fun _ => by kernel_rfl) (fun x1_3 hx1_3 => ?_)
   refine oR 5 (p' := (atN 1 (ctl1 g42p6))) (eE := ((37, .slice 0 9 0 9 1) :: (6, .int .u8 x1_3) :: (36, .int .u8 x1_3) :: E3)) (H' := (mkH [⟨[.int .i64 8, .int .i64 127, .int .i64 27, .int .i64 12, .int .i64 10, .int .i64 13, .int .i64 32, .int .i64 9, .int .i64 11], 0, false⟩])) (by kernel_rfl) ?_
   refine ok_frz [⟨[.int .i64 8, .int .i64 127, .int .i64 27, .int .i64 12, .int .i64 10, .int .i64 13, .int .i64 32, .int .i64 9, .int .i64 11], 0, false⟩] 37 0 9 1 0 [.int .i64 8, .int .i64 127, .int .i64 27, .int .i64 12, .int .i64 10, .int .i64 13, .int .i64 32, .int .i64 9, .int .i64 11] [0, 1, 6, 32, 33, 34, 35, 36] (env0 := [(0, .str a0), (1, .int .i64 a1), (6, .int .u8 x1_3), (32, .bool false), (33, .str a0), (34, .int .i64 a1), (35, .int .i64 (fW .i64 (a1 + 1))), (36, .int .u8 x1_3)]) (by kernel_rfl) rfl (.inl (by kernel_rfl)) rfl rfl (by decide) (by kernel_rfl) (by kernel_rfl) (by kernel_rfl) ⟨.inl rfl, trivial⟩ ?_
   refine oE (eE := [(37, .vec (g42c0).length 1 ((g42c0).flatMap e3)), (0, .str a0), (1, .int .i64 a1), (6, .int .u8 x1_3), (32, .bool false), (33, .str a0), (34, .int .i64 a1), (35, .int .i64 (fW .i64 (a1 + 1))), (36, .int .u8 x1_3)]) (by kernel_rfl) ?_
   refine ok_heap (H' := (mkH [⟨[], 0, false⟩])) (by kernel_rfl) ?_
   let E4 : Env := [(9, .int .i64 0), (8, .vec (g42c0).length 1 ((g42c0).flatMap e3)), (7, .str g42c1), (37, .vec (g42c0).length 1 ((g42c0).flatMap e3)), (0, .str a0), (1, .int .i64 a1), (6, .int .u8 x1_3), (32, .bool false), (33, .str a0), (34, .int .i64 a1), (35, .int .i64 (fW .i64 (a1 + 1))), (36, .int .u8 x1_3)]
   refine oR 10 (p' := g42p8) (eE := E4) (H' := (mkH [⟨[], 0, false⟩])) (by kernel_rfl) ?_
   refine oK [0, 1, 6, 7, 8, 9] (eE := [(0, .str a0), (1, .int .i64 a1), (6, .int .u8 x1_3), (7, .str g42c1), (8, .vec (g42c0).length 1 ((g42c0).flatMap e3)), (9, .int .i64 0)]) (by kernel_rfl) ?_
   refine ok_cut [] [⟨[], 0, false⟩] (by kernel_rfl) rfl (by kernel_rfl) trivial ?_
   exact (g42_l13_ok k a0 a1 x1_3 k) 0
 ·refine oS 20 (b := decide (a1 < 0)) (by kernel_rfl) (fun hb => ?_) (fun hb => ?_)
  ·let E53 : Env := ((32, .bool true) :: (31, .tuple []) :: (30, .tuple []) :: (29, .tuple []) :: (28, .tuple []) :: (27, .bool true) :: (26, .bool true) :: (25, .tuple []) :: (24, .tuple []) :: (23, .tuple []) :: (22, .tuple []) :: (21, .tuple []) :: (20, .bool true) :: E1)
   refine oR 13 (p' := g42p2) (eE := E53) (H' := (mkH [])) (by kernel_rfl) ?_
   refine oK [0, 1, 32] (eE := [(0, .str a0), (1, .int .i64 a1), (32, .bool true)]) (by kernel_rfl) ?_
   exact hj12 true
  ·let E54 : Env := ((27, .bool (decide (fW .i64 ((a0.length : Int) - 1) ≤ a1))) :: (26, .bool (decide (fW .i64 ((a0.length : Int) - 1) ≤ a1))) :: (25, .bool (decide (fW .i64 ((a0.length : Int) - 1) ≤ a1))) :: (24, .int .i64 (fW .i64 ((a0.length : Int) - 1))) :: (23, .int .i64 (a0.length : Int)) :: (22, .str a0) :: (21, .int .i64 a1) :: (20, .bool false) :: E1)
   refine oR 7 (p' := (atN 10 (ctl1 g42p1))) (eE := E54) (H' := (mkH [])) (by kernel_rfl) ?_
   refine oS 27 (b := decide (fW .i64 ((a0.length : Int) - 1) ≤ a1)) (by kernel_rfl) (fun hb => ?_) (fun hb => ?_)
   ·let E55 : Env := ((32, .bool true) :: (31, .tuple []) :: (30, .tuple []) :: (29, .tuple []) :: (28, .tuple []) :: (27, .bool true) :: E54)
    refine oR 6 (p' := g42p2) (eE := E55) (H' := (mkH [])) (by kernel_rfl) ?_
    refine oK [0, 1, 32] (eE := [(0, .str a0), (1, .int .i64 a1), (32, .bool true)]) (by kernel_rfl) ?_
    exact hj12 true
   ·refine oR 2 (p' := (atN 12 (ctl1 g42p1))) (eE := ((29, .int .i64 a1) :: (28, .str a0) :: (27, .bool false) :: E54)) (H' := (mkH [])) (by kernel_rfl) ?_
    refine oH (fun (x0_12 : Int) => (.int .u8 x0_12, (mkH []))) (atN 13 (ctl1 g42p1)) (fun x0_12 => ((30, .int .u8 x0_12) :: (29, .int .i64 a1) :: (28, .str a0) :: (27, .bool false) :: E54)) (idxH (by kernel_rfl)) (fun _ => by kernel_rfl) (fun x0_12 hx0_12 => ?_)
    let E56 : Env := ((32, .bool (!decide (x0_12 = 92))) :: (31, .bool (!decide (x0_12 = 92))) :: (30, .int .u8 x0_12) :: (29, .int .i64 a1) :: (28, .str a0) :: (27, .bool false) :: E54)
    refine oR 3 (p' := g42p2) (eE := E56) (H' := (mkH [])) (by kernel_rfl) ?_
    refine oK [0, 1, 32] (eE := [(0, .str a0), (1, .int .i64 a1), (32, .bool (!decide (x0_12 = 92)))]) (by kernel_rfl) ?_
    exact hj12 (!decide (x0_12 = 92))
end
end Go.Proofs.Ytabhkocokojddaa.Am
set_option maxRecDepth 100000
set_option linter.unusedVariables false
set_option linter.unusedSimpArgs false
namespace Go.Proofs.Ytabhkocokojddaa.Am
open Go
def digV (b : Nat) : Nat → Nat → List Nat → Nat × Nat
 | 0, v, _ => (v, 0)
 | _ + 1, v, [] => (v, 0)
 | m + 1, v, c :: r => if dgN c < b then ((digV b m (v * b + dgN c) r).1, (digV b m (v * b + dgN c) r).2 + 1) else (v, 0)
def hexBr (q : List Nat) : Int × Int := if (digV 16 6 0 q).2 = 0 then (-1, 0) else match q.drop (digV 16 6 0 q).2 with | c :: _ => if c = 125 ∧ cpN (digV 16 6 0 q).1 = true then (((digV 16 6 0 q).1 : Int), ((4 + (digV 16 6 0 q).2 : Nat) : Int)) else (-1, 0) | [] => (-1, 0)
def hex2 (r : List Nat) : Int × Int := if (digV 16 2 0 r).2 < 2 then (-1, 0) else (((digV 16 2 0 r).1 : Int), 4)
def hexN (r : List Nat) : Int × Int := match r with | c :: q => if c = 123 then hexBr q else hex2 (c :: q) | [] => (-1, 0)
def ctlN (r : List Nat) : Int × Int := match r with | c :: _ => if c < 64 ∨ 95 < c ∧ (c < 97 ∨ 122 < c) then (-1, 0) else (((c % 32 : Nat) : Int), 3) | [] => (-1, 0)
def nameN (c : Nat) : Nat := if c = 98 then 8 else if c = 100 then 127 else if c = 101 then 27 else if c = 102 then 12 else if c = 110 then 10 else if c = 114 then 13 else if c = 115 then 32 else if c = 116 then 9 else if c = 118 then 11 else 0
def uniN (s : List Nat) : Int × Int := if (dec s).1 < 32 then (-1, 0) else ((dec s).1, (dec s).2 + 1)
def octN (s : List Nat) : Int × Int := (((digV 8 3 0 s).1 : Int), ((1 + (digV 8 3 0 s).2 : Nat) : Int))
def escB (c : Nat) (r : List Nat) : Int × Int := if c = 120 then hexN r else if c = 94 then ctlN r else if 48 ≤ c ∧ c ≤ 55 then octN (c :: r) else if nameN c = 0 then uniN (c :: r) else ((nameN c : Int), 2)
def escN (s : List Nat) : Int × Int := match s with | a :: c :: r => if a = 92 then escB c r else (-1, 0) | _ => (-1, 0)
theorem digV_le (b : Nat) : ∀ (m v : Nat) (s : List Nat), (digV b m v s).2 ≤ m ∧ (digV b m v s).2 ≤ s.length
 | 0, v, s => ⟨Nat.le_refl _, Nat.zero_le _⟩
 | m + 1, v, [] => ⟨Nat.zero_le _, Nat.le_refl _⟩
 | m + 1, v, c :: r => by
  have := digV_le b m (v * b + dgN c) r
  simp only [digV]
  split
  ·simp only [List.length_cons]; omega
  ·exact ⟨Nat.zero_le _, Nat.zero_le _⟩
theorem digV_lt (b : Nat) (hb : 0 < b) : ∀ (m v : Nat) (s : List Nat), (digV b m v s).1 < (v + 1) * b ^ m
 | 0, v, s => by simp only [digV, Nat.pow_zero, Nat.mul_one]; omega
 | m + 1, v, [] => by
  simp only [digV]
  have : 1 ≤ b ^ (m + 1) := Nat.one_le_pow _ _ hb
  calc v < v + 1 := Nat.lt_succ_self _
   _ = (v + 1) * 1 := (Nat.mul_one _).symm
   _ ≤ _ := Nat.mul_le_mul_left _ this
 | m + 1, v, c :: r => by
  simp only [digV]
  split
  ·rename_i h
   have := digV_lt b hb m (v * b + dgN c) r
   refine Nat.lt_of_lt_of_le this ?_
   rw [Nat.pow_succ, Nat.mul_comm (b ^ m) b, ← Nat.mul_assoc]
   refine Nat.mul_le_mul_right _ ?_
   rw [Nat.add_mul, Nat.one_mul]; omega
  ·have : 1 ≤ b ^ (m + 1) := Nat.one_le_pow _ _ hb
   calc v < v + 1 := Nat.lt_succ_self _
    _ = (v + 1) * 1 := (Nat.mul_one _).symm
    _ ≤ _ := Nat.mul_le_mul_left _ this
theorem or_sh (m : Nat) (hm : m ≤ 10) {y x : Nat} (hy : y < 1099511627776) (hx : x < 2 ^ m) : orI .i64 (shlC .i64 (y : Int) m) (x : Int) = ((y * 2 ^ m + x : Nat) : Int) := by
 have hp : 2 ^ m ≤ 1024 := Nat.pow_le_pow_right (n := 2) (by decide) hm
 have hq : y * 2 ^ m ≤ 1099511627776 * 1024 := Nat.mul_le_mul (Nat.le_of_lt hy) hp
 have e1 : shlC .i64 (y : Int) m = ((y * 2 ^ m : Nat) : Int) := by
  unfold shlC
  have : (y : Int) * 2 ^ m = ((y * 2 ^ m : Nat) : Int) := by push_cast; rfl
  rw [this, fwI (by omega) (by omega)]
 rw [e1]
 unfold orI
 have e2 : ∀ x : Nat, x < 2 ^ 63 → (BitVec.ofInt IntKind.i64.bits (x : Int)).toNat = x := by
  intro x hx
  show (BitVec.ofInt 64 (x : Int)).toNat = x
  rw [BitVec.toNat_ofInt]
  omega
 rw [BitVec.toNat_or, e2 _ (by omega), e2 _ (by omega)]
 have e3 : y * 2 ^ m ||| x = y * 2 ^ m + x := by
  have h := Nat.two_pow_add_eq_or_of_lt (i := m) hx y
  rw [Nat.mul_comm y (2 ^ m)]
  exact h.symm
 rw [e3, fwI (by omega) (by omega)]
theorem and31 {c : Nat} (h : c < 256) : andI .u8 (c : Int) 31 = ((c % 32 : Nat) : Int) ∧ andI .i64 (c : Int) 31 = ((c % 32 : Nat) : Int) := by
 have w := byteAll (f := fun c => decide (andI .u8 (c : Int) 31 = ((c % 32 : Nat) : Int)) && decide (andI .i64 (c : Int) 31 = ((c % 32 : Nat) : Int))) (by decide +kernel) h
 simpa using w
theorem control_at (k : Nat) {s : List Nat} (hs : By s) (hl : Sz s) {a : Nat} (ha : a + 2 ≤ s.length) : g80 k s (a : Int) = some (ctlN (s.drop (a + 2))) := by
 unfold Sz at hl
 unfold g80
 rcases Nat.lt_or_ge (a + 2) s.length with h | h
 ·obtain ⟨c, r, hc, hr, hm, hrl⟩ := dcons h
  have n2 : nthS s ((a : Int) + 2) = some (c : Int) := nthX (by omega) hc
  have c256 := hs c hm
  refine iF (by first | (simp (disch := omega) only [↓reduceIte, ↓jn, gsL]; done) | rfl) ?_
  refine bS (by (try simp (disch := omega) only [fwI]); exact n2) ?_
  rw [hc]
  by_cases h0 : c < 64 ∨ 95 < c ∧ (c < 97 ∨ 122 < c)
  ·simp only [ctlN, h0, if_true]
   refine (jS (v := true) (fun j => ?_)).trans rfl
   by_cases h1 : c < 64
   ·simp (disch := omega) only [↓reduceIte, ↓jn, gsL]
   ·by_cases h2 : c < 97
    ·simp (disch := omega) only [↓reduceIte, ↓jn, gsL]
    ·simp (disch := omega) only [↓reduceIte, ↓jn, gsL]
  ·simp only [ctlN, h0, if_false]
   refine (jS (v := false) (fun j => ?_)).trans ?_
   ·by_cases h1 : 95 < c
    ·simp (disch := omega) only [↓reduceIte, ↓jn, gsL]
    ·simp (disch := omega) only [↓reduceIte, ↓jn, gsL]
   ·refine iF (by first | (simp (disch := omega) only [↓reduceIte, ↓jn, gsL]; done) | rfl) ?_
    rw [(and31 c256).1, fwI (by omega) (by omega)]
 ·refine iT (by first | (simp (disch := omega) only [↓reduceIte, ↓jn, gsL]; done) | rfl) ?_
  rw [dnil h]; rfl
theorem oct_l (k : Nat) {s : List Nat} (hs : By s) (hl : Sz s) {a : Nat} : ∀ (d f n v : Nat), n + d = 4 → d < f → (v + 1) * 8 ^ d ≤ 4096 → a + n ≤ s.length + 4 →
 g41_l9 k s (a : Int) f (v : Int) (n : Int) = some (((digV 8 d v (s.drop (a + n))).1 : Int), ((n + (digV 8 d v (s.drop (a + n))).2 : Nat) : Int))
 | 0, f, n, v, hn, hf, hv, ha => by
  unfold Sz at hl
  obtain ⟨f, rfl⟩ : ∃ f', f = f' + 1 := ⟨f - 1, by omega⟩
  rw [g41_l9_s]
  refine (jS (v := (false, (n : Int), (v : Int))) (fun j => ?_)).trans ?_
  ·simp (disch := omega) only [↓reduceIte, ↓jn, gsL]
  ·rfl
 | d + 1, f, n, v, hn, hf, hv, ha => by
  have hl' := hl
  unfold Sz at hl
  obtain ⟨f, rfl⟩ : ∃ f', f = f' + 1 := ⟨f - 1, by omega⟩
  rw [g41_l9_s]
  rcases Nat.lt_or_ge (a + n) s.length with h | h
  ·obtain ⟨c, r, hc, hr, hm, hrl⟩ := dcons h
   have nc : nthS s ((a : Int) + n) = some (c : Int) := nthX (by omega) hc
   have dc := digit_at k (hs c hm)
   by_cases hd : dgN c < 8
   ·have e := fun _ : Unit => fw_s (n := n) (by omega)
    refine (jS (v := (true, (n : Int), (v : Int))) (fun j => ?_)).trans ?_
    ·simp (disch := omega) only [↓reduceIte, ↓jn, gsL, nc, dc]
    ·refine iT (by first | (simp (disch := omega) only [↓reduceIte, ↓jn, gsL]; done) | rfl) ?_
     refine bS (by (try simp (disch := omega) only [fwI]); exact nc) ?_
     refine bS (by (try simp (disch := omega) only [fwI]); exact dc) ?_
     have hp : 1 ≤ 8 ^ d := Nat.one_le_pow _ _ (by decide)
     have hv' : (v * 2 ^ 3 + dgN c + 1) * 8 ^ d ≤ 4096 := by
      refine Nat.le_trans ?_ hv
      rw [Nat.pow_succ 8 d, Nat.mul_comm (8 ^ d) 8, ← Nat.mul_assoc]
      exact Nat.mul_le_mul_right _ (by omega)
     have hv1 : v * 2 ^ 3 + dgN c + 1 ≤ 4096 := Nat.le_trans (Nat.le_mul_of_pos_right _ hp) hv'
     have o := or_sh 3 (by decide) (y := v) (x := dgN c) (by omega) (by omega)
     rw [o]
     have ih := oct_l k hs hl' (a := a) d f (n + 1) (v * 2 ^ 3 + dgN c) (by omega) (by omega) hv' (by omega)
     rw [e ()]
     refine ih.trans ?_
     rw [show a + (n + 1) = a + n + 1 from rfl, hr, hc]
     simp only [digV, hd, if_true, show (2 : Nat) ^ 3 = 8 from rfl]
     refine congrArg some (Prod.ext rfl ?_)
     show ((_ : Nat) : Int) = ((_ : Nat) : Int)
     omega
   ·refine (jS (v := (false, (n : Int), (v : Int))) (fun j => ?_)).trans ?_
    ·simp (disch := omega) only [↓reduceIte, ↓jn, gsL, nc, dc]
    ·rw [hc]; simp only [digV, hd, if_false]; rfl
  ·refine (jS (v := (false, (n : Int), (v : Int))) (fun j => ?_)).trans ?_
   ·simp (disch := omega) only [↓reduceIte, ↓jn, gsL]
   ·rw [dnil h]; simp only [digV]; rfl
def finH (s : List Nat) (a p : Nat) (bh : Bool) (v n : Nat) : Int × Int :=
 if bh then (if n < 1 then (-1, 0) else match s.drop (p + n) with | c :: _ => if c = 125 ∧ cpN v = true then ((v : Int), ((p + n + 1 - a : Nat) : Int)) else (-1, 0) | [] => (-1, 0))
 else (if n < 2 then (-1, 0) else if cpN v = true then ((v : Int), ((p + n - a : Nat) : Int)) else (-1, 0))
theorem put_nil (v : Nat) : eqL (put (v : Int)) [] = !cpN v := by
 cases h : cpN v with
 | false => rw [put_no h]; rfl
 | true =>
  rw [put_cp h]
  unfold enc
  repeat' split
  all_goals rfl
theorem hex_e {k : Nat} (hk : 6 ≤ k) {s : List Nat} (hs : By s) (hl : Sz s) {a p M : Nat} (bh : Bool) (hp : a ≤ p) (hpl : p ≤ s.length + 10) {v n f : Nat} (hn : n ≤ 6) (hend : n = M ∨ s.length ≤ p + n ∨ ∃ c r, s.drop (p + n) = c :: r ∧ ¬ dgN c < 16) :
 g79_l6 k s (a : Int) ((p : Int), (M : Int), if bh then 1 else 0) (f + 1) (v : Int) (n : Int) = some (finH s a p bh v n) := by
 have hl' := hl
 unfold Sz at hl
 rw [g79_l6_s]
 refine (jS (v := (false, (v : Int), (n : Int))) (fun j => ?_)).trans ?_
 ·by_cases h1 : n < M
  ·by_cases h2 : p + n < s.length
   ·obtain ⟨c, r, hc, hd⟩ : ∃ c r, s.drop (p + n) = c :: r ∧ ¬ dgN c < 16 := by
     rcases hend with h | h | h
     ·omega
     ·omega
     ·exact h
    have nc : nthS s ((p : Int) + n) = some (c : Int) := nthX (by omega) hc
    simp (disch := omega) only [↓reduceIte, ↓jn, gsL, nc, digit_at k (hs c (drop_mem hc))]
   ·simp (disch := omega) only [↓reduceIte, ↓jn, gsL]
  ·simp (disch := omega) only [↓reduceIte, ↓jn, gsL]
 ·refine iF (by first | (simp (disch := omega) only [↓reduceIte, ↓jn, gsL]; done) | rfl) ?_
  simp only [fw_a (n := p) (m := n) (by omega) (by omega), put_at hk, Option.bind_some, put_nil]
  unfold finH
  cases bh with
  | false =>
   simp only [Bool.false_eq_true, if_false]
   by_cases h1 : n < 2
   ·rw [if_pos h1]
    refine (jS (v := ((v : Int), ((p + n : Nat) : Int), true)) (fun j => ?_)).trans rfl
    simp (disch := omega) only [↓reduceIte, ↓jn, gsL]
   ·rw [if_neg h1]
    refine (jS (v := ((v : Int), ((p + n : Nat) : Int), !cpN v)) (fun j => ?_)).trans ?_
    ·simp (disch := omega) only [↓reduceIte, ↓jn, gsL]
    ·cases cpN v with
     | false => rfl
     | true => refine iF (by first | (simp (disch := omega) only [↓reduceIte, ↓jn, gsL]; done) | rfl) ?_; simp (disch := omega) only [↓reduceIte, ↓jn, gsL]; exact congrArg some (Prod.ext rfl (by show _ = ((_ : Nat) : Int); omega))
  | true =>
   simp only [if_true]
   by_cases h1 : n < 1
   ·rw [if_pos h1]
    refine (jS (v := ((v : Int), ((p + n : Nat) : Int), true)) (fun j => ?_)).trans rfl
    simp (disch := omega) only [↓reduceIte, ↓jn, gsL]
   ·rw [if_neg h1]
    rcases Nat.lt_or_ge (p + n) s.length with h2 | h2
    ·obtain ⟨c, r, hc, hr, hm, hrl⟩ := dcons h2
     have nc : nthS s ((p + n : Nat) : Int) = some (c : Int) := nthX rfl hc
     rw [hc]
     by_cases h125 : c = 125
     ·subst h125
      refine (jS (v := ((v : Int), ((p + n : Nat) : Int), !cpN v)) (fun j => ?_)).trans ?_
      ·simp (disch := omega) only [↓reduceIte, ↓jn, gsL, nc]
      ·simp only [true_and]
       cases cpN v with
       | false => rfl
       | true => refine iF (by first | (simp (disch := omega) only [↓reduceIte, ↓jn, gsL]; done) | rfl) ?_; simp (disch := omega) only [↓reduceIte, ↓jn, gsL]; exact congrArg some (Prod.ext rfl (by show _ = ((_ : Nat) : Int); omega))
     ·refine (jS (v := ((v : Int), ((p + n : Nat) : Int), true)) (fun j => ?_)).trans ?_
      ·simp (disch := omega) only [↓reduceIte, ↓jn, gsL, nc]
      ·simp only [h125, false_and, if_false]; rfl
    ·rw [dnil h2]
     refine (jS (v := ((v : Int), ((p + n : Nat) : Int), true)) (fun j => ?_)).trans rfl
     simp (disch := omega) only [↓reduceIte, ↓jn, gsL]
theorem hex_l {k : Nat} (hk : 6 ≤ k) {s : List Nat} (hs : By s) (hl : Sz s) {a p M : Nat} (bh : Bool) (hp : a ≤ p) (hpl : p ≤ s.length + 10) (hM : M ≤ 6) : ∀ (d f n v : Nat), n + d = M → d < f → (v + 1) * 16 ^ d ≤ 16777216 →
 g79_l6 k s (a : Int) ((p : Int), (M : Int), if bh then 1 else 0) f (v : Int) (n : Int) = some (finH s a p bh (digV 16 d v (s.drop (p + n))).1 (n + (digV 16 d v (s.drop (p + n))).2))
 | 0, f, n, v, hn, hf, hv => by
  obtain ⟨f, rfl⟩ : ∃ f', f = f' + 1 := ⟨f - 1, by omega⟩
  exact hex_e hk hs hl bh hp hpl (by omega) (.inl (by omega))
 | d + 1, f, n, v, hn, hf, hv => by
  have hl' := hl
  unfold Sz at hl
  obtain ⟨f, rfl⟩ : ∃ f', f = f' + 1 := ⟨f - 1, by omega⟩
  rcases Nat.lt_or_ge (p + n) s.length with h | h
  ·obtain ⟨c, r, hc, hr, hm, hrl⟩ := dcons h
   by_cases hd : dgN c < 16
   ·rw [g79_l6_s]
    have nc : nthS s ((p : Int) + n) = some (c : Int) := nthX (by omega) hc
    have dc := digit_at k (hs c hm)
    have e := fun _ : Unit => fw_s (n := n) (by clear hv; omega)
    have hnM : n < M := by omega
    refine (jS (v := (true, (v : Int), (n : Int))) (fun j => ?_)).trans ?_
    ·clear hv; simp (disch := omega) only [↓reduceIte, ↓jn, gsL, nc, dc]
    ·refine iT (by first | (simp (disch := omega) only [↓reduceIte, ↓jn, gsL]; done) | rfl) ?_
     refine bS (by (try simp (disch := omega) only [fwI]); exact nc) ?_
     refine bS (by (try simp (disch := omega) only [fwI]); exact dc) ?_
     have h16 : 1 ≤ 16 ^ d := Nat.one_le_pow _ _ (by decide)
     have hv' : (v * 2 ^ 4 + dgN c + 1) * 16 ^ d ≤ 16777216 := by
      refine Nat.le_trans ?_ hv
      rw [Nat.pow_succ 16 d, Nat.mul_comm (16 ^ d) 16, ← Nat.mul_assoc]
      exact Nat.mul_le_mul_right _ (by omega)
     have hv1 : v * 2 ^ 4 + dgN c + 1 ≤ 16777216 := Nat.le_trans (Nat.le_mul_of_pos_right _ h16) hv'
     have o := or_sh 4 (by decide) (y := v) (x := dgN c) (by omega) (by omega)
     rw [o]
     have ih := hex_l hk hs hl' (a := a) (p := p) (M := M) bh hp hpl hM d f (n + 1) (v * 2 ^ 4 + dgN c) (by omega) (by omega) hv'
     rw [e ()]
     refine ih.trans ?_
     rw [show p + (n + 1) = p + n + 1 from rfl, hr, hc]
     simp only [digV, hd, if_true, show (2 : Nat) ^ 4 = 16 from rfl]
     rw [Nat.add_assoc n 1, Nat.add_comm 1]
   ·rw [hc]
    simp only [digV, hd, if_false]
    exact hex_e hk hs hl' bh hp hpl (by omega) (.inr (.inr ⟨c, r, hc, hd⟩))
  ·rw [dnil h]
   simp only [digV]
   exact hex_e hk hs hl' bh hp hpl (by omega) (.inr (.inl (by omega)))
theorem cp_small {v : Nat} (h : v < 256) : cpN v = true := by unfold cpN; simp; omega
theorem hex_at {k : Nat} (hk : 10 ≤ k) {s : List Nat} (hs : By s) (hl : Sz s) {a : Nat} (ha : a + 2 ≤ s.length) : g79 k s (a : Int) = some (hexN (s.drop (a + 2))) := by
 have hl' := hl
 unfold Sz at hl
 unfold g79
 have e2 := fun _ : Unit => fw_a (n := a) (m := 2) (by omega) (by omega)
 have two : ∀ r, s.drop (a + 2) = r → some (finH s a (a + 2) false (digV 16 2 0 (s.drop (a + 2 + 0))).1 (0 + (digV 16 2 0 (s.drop (a + 2 + 0))).2)) = some (hex2 r) := by
  intro r hr
  rw [Nat.add_zero, hr, Nat.zero_add]
  have h1 := digV_le 16 2 0 r
  have h2 := digV_lt 16 (by decide) 2 0 r
  unfold finH hex2
  simp only [Bool.false_eq_true, if_false]
  by_cases h : (digV 16 2 0 r).2 < 2
  ·rw [if_pos h, if_pos h]
  ·rw [if_neg h, if_neg h, if_pos (cp_small (by simpa using h2))]
   exact congrArg some (Prod.ext rfl (by show ((_ : Nat) : Int) = 4; omega))
 rw [show fW .i64 ((a : Int) + 2) = ((a + 2 : Nat) : Int) from e2 ()]
 clear e2
 rcases Nat.lt_or_ge (a + 2) s.length with h | h
 ·obtain ⟨c, r, hc, hr, hm, hrl⟩ := dcons h
  have nc : nthS s ((a + 2 : Nat) : Int) = some (c : Int) := nthX rfl hc
  by_cases h123 : c = 123
  ·subst h123
   refine (jS (v := true) (fun j => ?_)).trans ?_
   ·simp (disch := omega) only [↓reduceIte, ↓jn, gsL, nc]
   ·refine (jS (v := (((a + 3 : Nat) : Int), ((6 : Nat) : Int), if true then 1 else 0)) (fun j => ?_)).trans ?_
    ·refine iT (by first | (simp (disch := omega) only [↓reduceIte, ↓jn, gsL]; done) | rfl) ?_
     rw [fw_s (n := a + 2) (by omega)]; rfl
    ·refine (hex_l (by omega) hs hl' (a := a) (p := a + 3) (M := 6) true (by omega) (by omega) (by decide) 6 k 0 0 rfl (by omega) (by decide)).trans ?_
     rw [Nat.add_zero, show a + 3 = a + 2 + 1 from rfl, hr, hc, Nat.zero_add]
     have h1 := digV_le 16 6 0 r
     unfold finH hexN hexBr
     simp only [if_true, if_true]
     by_cases h0 : (digV 16 6 0 r).2 = 0
     ·rw [if_pos (by omega), if_pos h0]
     ·rw [if_neg (by omega), if_neg h0, ← List.drop_drop, hr]
      cases r.drop (digV 16 6 0 r).2 with
      | nil => rfl
      | cons d q =>
       simp only []
       by_cases hd : d = 125 ∧ cpN (digV 16 6 0 r).1 = true
       ·rw [if_pos hd, if_pos hd]
        exact congrArg some (Prod.ext rfl (by show ((_ : Nat) : Int) = ((_ : Nat) : Int); omega))
       ·rw [if_neg hd, if_neg hd]
  ·refine (jS (v := false) (fun j => ?_)).trans ?_
   ·simp (disch := omega) only [↓reduceIte, ↓jn, gsL, nc]
   ·refine (jS (v := (((a + 2 : Nat) : Int), ((2 : Nat) : Int), if false then 1 else 0)) (fun j => ?_)).trans ?_
    ·refine iF (by first | (simp (disch := omega) only [↓reduceIte, ↓jn, gsL]; done) | rfl) ?_
     rfl
    ·refine (hex_l (by omega) hs hl' (a := a) (p := a + 2) (M := 2) false (by omega) (by omega) (by decide) 2 k 0 0 rfl (by omega) (by decide)).trans ?_
     rw [two _ hc, hc]
     simp only [hexN, h123, if_false]
 ·refine (jS (v := false) (fun j => ?_)).trans ?_
  ·simp (disch := omega) only [↓reduceIte, ↓jn, gsL]
  ·refine (jS (v := (((a + 2 : Nat) : Int), ((2 : Nat) : Int), if false then 1 else 0)) (fun j => ?_)).trans ?_
   ·refine iF (by first | (simp (disch := omega) only [↓reduceIte, ↓jn, gsL]; done) | rfl) ?_
    rfl
   ·refine (hex_l (by omega) hs hl' (a := a) (p := a + 2) (M := 2) false (by omega) (by omega) (by decide) 2 k 0 0 rfl (by omega) (by decide)).trans ?_
    rw [two _ (dnil h), dnil h]
    rfl
end Go.Proofs.Ytabhkocokojddaa.Am
set_option maxRecDepth 100000
set_option linter.unusedVariables false
set_option linter.unusedSimpArgs false
namespace Go.Proofs.Ytabhkocokojddaa.Am
open Go
theorem escN_no {a : Nat} {r : List Nat} (h : a ≠ 92) : escN (a :: r) = (-1, 0) := by
 cases r with
 | nil => rfl
 | cons c r => simp only [escN, h, if_false]
theorem escape_at {k : Nat} (hk : 10 ≤ k) {s : List Nat} (hs : By s) (hl : Sz s) (a : Nat) : g41 k s (a : Int) = some (escN (s.drop a)) := by
 have hl' := hl
 unfold Sz at hl
 unfold g41
 have fail : ∀ (f : Bool → Option (Int × Int)) (g : (Bool → Option (Int × Int)) → Option (Int × Int)), f true = some (-1, 0) → (∀ j, g j = j true) → escN (s.drop a) = (-1, 0) → jn f g = some (escN (s.drop a)) := by
  intro f g hf hg he
  rw [he]; exact (hg f).trans hf
 rcases Nat.lt_or_ge a s.length with h | h
 ·obtain ⟨c, r, hc, hr, hm, hrl⟩ := dcons h
  have nc := nthX (x := (a : Int)) rfl hc
  by_cases h92 : c = 92
  ·subst h92
   cases hr2 : r with
   | nil =>
    rw [hr2] at hrl hc
    simp only [List.length_nil] at hrl
    refine fail _ _ rfl (fun j => ?_) (by rw [hc]; rfl)
    simp (disch := omega) only [↓reduceIte, ↓jn, gsL, nc]
   | cons d q =>
    rw [hr2] at hr hrl hc
    have d256 := hs d (drop_mem hr)
    simp only [List.length_cons] at hrl
    have nd : nthS s ((a : Int) + 1) = some (d : Int) := nthX (i := a + 1) (by omega) hr
    refine (jS (v := false) (fun j => ?_)).trans ?_
    ·simp (disch := omega) only [↓reduceIte, ↓jn, gsL, nc]
    ·refine iF (by first | (simp (disch := omega) only [↓reduceIte, ↓jn, gsL]; done) | rfl) ?_
     refine bS (by (try simp (disch := omega) only [fwI]); exact nd) ?_
     rw [hc]
     simp only [escN, if_true]
     have dq : s.drop (a + 2) = q := by rw [← List.drop_drop, hc]; rfl
     unfold escB
     by_cases h120 : d = 120
     ·subst h120
      refine iT (by first | (simp (disch := omega) only [↓reduceIte, ↓jn, gsL]; done) | rfl) ?_
      rw [if_pos rfl, hex_at hk hs hl' (a := a) (by omega), dq]
      rfl
     ·rw [if_neg h120]
      refine iF (by first | (simp (disch := omega) only [↓reduceIte, ↓jn, gsL]; done) | rfl) ?_
      by_cases h94 : d = 94
      ·subst h94
       refine iT (by first | (simp (disch := omega) only [↓reduceIte, ↓jn, gsL]; done) | rfl) ?_
       rw [if_pos rfl, control_at k hs hl' (a := a) (by omega), dq]
       rfl
      ·rw [if_neg h94]
       refine iF (by first | (simp (disch := omega) only [↓reduceIte, ↓jn, gsL]; done) | rfl) ?_
       by_cases h8 : 48 ≤ d ∧ d ≤ 55
       ·rw [if_pos h8]
        refine (jS (v := true) (fun j => ?_)).trans ?_
        ·simp (disch := omega) only [↓reduceIte, ↓jn, gsL]
        ·refine iT (by first | (simp (disch := omega) only [↓reduceIte, ↓jn, gsL]; done) | rfl) ?_
         refine (oct_l k hs hl' (a := a) 3 k 1 0 rfl (by omega) (by decide) (by omega)).trans ?_
         rw [hr]
         rfl
       ·rw [if_neg h8]
        refine (jS (v := false) (fun j => ?_)).trans ?_
        ·by_cases h1 : 48 ≤ d
         ·simp (disch := omega) only [↓reduceIte, ↓jn, gsL]
         ·simp (disch := omega) only [↓reduceIte, ↓jn, gsL]
        ·refine iF (by first | (simp (disch := omega) only [↓reduceIte, ↓jn, gsL]; done) | rfl) ?_
         have nx := next_at (k := k) (by omega) hs hl' (a + 1)
         rw [hr] at nx
         have fin : (g78 k s (fW .i64 ((a : Int) + 1))).bind (fun x4_3 => if (decide (x4_3.1 < 32)) then (some (((-1) : Int), (0 : Int))) else (some (x4_3.1, fW .i64 (x4_3.2 + 1)))) = some (uniN (d :: q)) := by
          rw [fw_s (by omega)]
          refine bS (by (try simp (disch := omega) only [fwI]); exact nx) ?_
          unfold uniN
          obtain ⟨n, n1, n2, n3, n4, -⟩ := dec_size (s := d :: q) (by simp)
          by_cases h32 : (dec (d :: q)).1 < 32
          ·rw [if_pos h32]; refine iT (by first | (simp (disch := omega) only [↓reduceIte, ↓jn, gsL, h32]; done) | rfl) ?_; rfl
          ·rw [if_neg h32]; refine iF (by first | (simp (disch := omega) only [↓reduceIte, ↓jn, gsL, h32]; done) | rfl) ?_; rw [n1, fw_s (by clear n1; omega)]; rfl
         unfold nameN
         by_cases e1 : d = 98
         ·subst e1; rfl
         by_cases e2 : d = 100
         ·subst e2; rfl
         by_cases e3 : d = 101
         ·subst e3; rfl
         by_cases e4 : d = 102
         ·subst e4; rfl
         by_cases e5 : d = 110
         ·subst e5; rfl
         by_cases e6 : d = 114
         ·subst e6; rfl
         by_cases e7 : d = 115
         ·subst e7; rfl
         by_cases e8 : d = 116
         ·subst e8; rfl
         by_cases e9 : d = 118
         ·subst e9; rfl
         rw [dF (p := (d : Int) = 98) (by omega), dF (p := (d : Int) = 100) (by omega), dF (p := (d : Int) = 101) (by omega), dF (p := (d : Int) = 102) (by omega), dF (p := (d : Int) = 110) (by omega), dF (p := (d : Int) = 114) (by omega), dF (p := (d : Int) = 115) (by omega), dF (p := (d : Int) = 116) (by omega), dF (p := (d : Int) = 118) (by omega)]
         simp only [e1, e2, e3, e4, e5, e6, e7, e8, e9, if_false, if_true, Bool.false_eq_true]
         exact fin
  ·have h92' : ¬ (c : Int) = 92 := by omega
   refine fail _ _ rfl (fun j => ?_) (by rw [hc]; exact escN_no h92)
   simp (disch := omega) only [↓reduceIte, ↓jn, gsL, nc, h92']
 ·refine fail _ _ rfl (fun j => ?_) (by rw [dnil h]; rfl)
  simp (disch := omega) only [↓reduceIte, ↓jn, gsL]
theorem escape_neg {k : Nat} {s : List Nat} {a : Int} (h : a < 0) : g41 k s a = some (-1, 0) := by
 unfold g41
 rw [decide_eq_true h]; rfl
theorem rrunV_l (k : Nat) {s : List Nat} (hs : By s) (hl : Sz s) {p b M : Nat} (hb : b ≤ 16) (hpl : p ≤ s.length + 10) (hM : M ≤ 6) : ∀ (d f n v : Nat), n + d = M → d < f → (v + 1) * 16 ^ d ≤ 16777216 →
 g81_l2 k s (p : Int) (b : Int) (M : Int) f (v : Int) (n : Int) = some (((digV b d v (s.drop (p + n))).1 : Int), ((n + (digV b d v (s.drop (p + n))).2 : Nat) : Int))
 | 0, f, n, v, hn, hf, hv => by
  unfold Sz at hl
  obtain ⟨f, rfl⟩ : ∃ f', f = f' + 1 := ⟨f - 1, by omega⟩
  rw [g81_l2_s]
  refine (jS (v := (false, (v : Int), (n : Int))) (fun j => ?_)).trans ?_
  ·clear hv; simp (disch := omega) only [↓reduceIte, ↓jn, gsL]
  ·rfl
 | d + 1, f, n, v, hn, hf, hv => by
  have hl' := hl
  unfold Sz at hl
  obtain ⟨f, rfl⟩ : ∃ f', f = f' + 1 := ⟨f - 1, by omega⟩
  rw [g81_l2_s]
  rcases Nat.lt_or_ge (p + n) s.length with h | h
  ·obtain ⟨c, r, hc, hr, hm, hrl⟩ := dcons h
   have nc : nthS s ((p : Int) + n) = some (c : Int) := nthX (by omega) hc
   have vc := value_at k (b := b) (hs c hm) (by omega)
   by_cases hd : dgN c < b
   ·rw [if_pos hd] at vc
    have e := fun _ : Unit => fw_s (n := n) (by clear hv; omega)
    refine (jS (v := (true, (v : Int), (n : Int))) (fun j => ?_)).trans ?_
    ·clear hv; simp (disch := omega) only [↓reduceIte, ↓jn, gsL, nc, vc]
    ·refine iT (by first | (simp (disch := omega) only [↓reduceIte, ↓jn, gsL]; done) | rfl) ?_
     refine bS (by (try simp (disch := omega) only [fwI]); exact nc) ?_
     refine bS (by (try simp (disch := omega) only [fwI]); exact vc) ?_
     have h16 : 1 ≤ 16 ^ d := Nat.one_le_pow _ _ (by decide)
     have hvb : v * b ≤ v * 16 := Nat.mul_le_mul_left _ hb
     have hv' : (v * b + dgN c + 1) * 16 ^ d ≤ 16777216 := by
      refine Nat.le_trans ?_ hv
      rw [Nat.pow_succ 16 d, Nat.mul_comm (16 ^ d) 16, ← Nat.mul_assoc]
      exact Nat.mul_le_mul_right _ (by omega)
     have hv1 : v * b + dgN c + 1 ≤ 16777216 := Nat.le_trans (Nat.le_mul_of_pos_right _ h16) hv'
     have ih := rrunV_l k hs hl' (p := p) (b := b) (M := M) hb hpl hM d f (n + 1) (v * b + dgN c) (by omega) (by omega) hv'
     rw [e (), show (v : Int) * (b : Int) = ((v * b : Nat) : Int) from by push_cast; rfl, fwI (n := ((v * b : Nat) : Int)) (by omega) (by omega), fw_a (by omega) (by omega)]
     refine ih.trans ?_
     rw [show p + (n + 1) = p + n + 1 from rfl, hr, hc]
     simp only [digV, hd, if_true]
     rw [Nat.add_assoc n 1, Nat.add_comm 1]
   ·rw [if_neg hd] at vc
    refine (jS (v := (false, (v : Int), (n : Int))) (fun j => ?_)).trans ?_
    ·clear hv; simp (disch := omega) only [↓reduceIte, ↓jn, gsL, nc, vc]
    ·rw [hc]; simp only [digV, hd, if_false]; rfl
  ·refine (jS (v := (false, (v : Int), (n : Int))) (fun j => ?_)).trans ?_
   ·clear hv; simp (disch := omega) only [↓reduceIte, ↓jn, gsL]
   ·rw [dnil h]; simp only [digV]; rfl
theorem rrunV_at {k : Nat} {s : List Nat} (hs : By s) (hl : Sz s) {p b M : Nat} (hb : b ≤ 16) (hpl : p ≤ s.length + 10) (hM : M ≤ 6) (hk : 7 ≤ k) : g81 k s (p : Int) (b : Int) (M : Int) = some (((digV b M 0 (s.drop p)).1 : Int), ((digV b M 0 (s.drop p)).2 : Int)) := by
 have hp : 16 ^ M ≤ 16777216 := Nat.pow_le_pow_right (n := 16) (by decide) hM
 have := rrunV_l k hs hl (p := p) (b := b) (M := M) hb hpl hM M k 0 0 (by omega) (by omega) (by omega)
 rw [Nat.zero_add] at this
 exact this
theorem rname_no (k : Nat) (s : List Nat) (a : Int) {d : Nat} (hd : nameN d = 0) (f : Nat) : g42_l13 k s a (d : Int) (f + 10) 0 = g42_l13 k s a (d : Int) (f + 1) 9 := by
 have ne : d ≠ 98 ∧ d ≠ 100 ∧ d ≠ 101 ∧ d ≠ 102 ∧ d ≠ 110 ∧ d ≠ 114 ∧ d ≠ 115 ∧ d ≠ 116 ∧ d ≠ 118 := by
  refine ⟨?_, ?_, ?_, ?_, ?_, ?_, ?_, ?_, ?_⟩ <;> (intro h; subst h; revert hd; decide)
 obtain ⟨e1, e2, e3, e4, e5, e6, e7, e8, e9⟩ := ne
 have st : ∀ (i b f : Nat), i < 9 → nthS g42c1 (i : Int) = some (b : Int) → d ≠ b → g42_l13 k s a (d : Int) (f + 1) (i : Int) = g42_l13 k s a (d : Int) f ((i + 1 : Nat) : Int) := by
  intro i b f hi hn hb
  rw [g42_l13_s]
  refine iT (by first | (simp (disch := omega) only [↓reduceIte, ↓jn, gsL]; done) | rfl) ?_
  refine bS (by (try simp (disch := omega) only [fwI]); exact hn) ?_
  rw [dF (show ¬ (b : Int) = (d : Int) by omega), fw_s (by omega)]
  rfl
 exact (st 0 98 (f + 9) (by decide) rfl e1).trans <| (st 1 100 (f + 8) (by decide) rfl e2).trans <| (st 2 101 (f + 7) (by decide) rfl e3).trans <| (st 3 102 (f + 6) (by decide) rfl e4).trans <| (st 4 110 (f + 5) (by decide) rfl e5).trans <| (st 5 114 (f + 4) (by decide) rfl e6).trans <| (st 6 115 (f + 3) (by decide) rfl e7).trans <| (st 7 116 (f + 2) (by decide) rfl e8).trans (st 8 118 (f + 1) (by decide) rfl e9)
theorem rescape_t {k : Nat} (hk : 10 ≤ k) {s : List Nat} (hs : By s) (hl : Sz s) {a d f : Nat} {q : List Nat} (hr : s.drop (a + 1) = d :: q) (hd : nameN d = 0) :
 g42_l13 k s (a : Int) (d : Int) (f + 1) 9 = some (escB d q) := by
 have hl' := hl
 unfold Sz at hl
 have d256 := hs d (drop_mem hr)
 have dq : s.drop (a + 2) = q := drop_step hr
 have ql := drop_len hr
 rw [g42_l13_s]
 refine iF rfl ?_
 unfold escB
 by_cases h8 : 48 ≤ d ∧ d ≤ 55
 ·refine (jS (v := true) (fun j => ?_)).trans ?_
  ·simp (disch := omega) only [↓reduceIte, ↓jn, gsL]
  ·refine iT (by first | (simp (disch := omega) only [↓reduceIte, ↓jn, gsL]; done) | rfl) ?_
   rw [fw_s (by omega)]
   have r := rrunV_at (k := k) hs hl' (p := a + 1) (b := 8) (M := 3) (by decide) (by omega) (by decide) (by omega)
   rw [hr] at r
   refine bS (by (try simp (disch := omega) only [fwI]); exact r) ?_
   have := (digV_le 8 3 0 (d :: q)).1
   rw [show (1 : Int) = ((1 : Nat) : Int) from rfl, fw_a (by omega) (by omega)]
   rw [if_neg (show ¬ d = 120 by omega), if_neg (show ¬ d = 94 by omega), if_pos h8]
   rfl
 ·refine (jS (v := false) (fun j => ?_)).trans ?_
  ·by_cases h1 : 48 ≤ d
   ·simp (disch := omega) only [↓reduceIte, ↓jn, gsL]
   ·simp (disch := omega) only [↓reduceIte, ↓jn, gsL]
  ·refine iF (by first | (simp (disch := omega) only [↓reduceIte, ↓jn, gsL]; done) | rfl) ?_
   by_cases h120 : d = 120
   ·subst h120
    rw [if_pos rfl]
    cases q with
    | nil =>
     simp only [List.length_nil] at ql
     refine (jS (v := false) (fun j => ?_)).trans ?_
     ·simp (disch := omega) only [↓reduceIte, ↓jn, gsL]
     ·refine iF (by first | (simp (disch := omega) only [↓reduceIte, ↓jn, gsL]; done) | rfl) ?_
      refine iT (by first | (simp (disch := omega) only [↓reduceIte, ↓jn, gsL]; done) | rfl) ?_
      have r := rrunV_at (k := k) hs hl' (p := a + 2) (b := 16) (M := 2) (by decide) (by omega) (by decide) (by omega)
      rw [dq] at r
      rw [show fW .i64 ((a : Int) + 2) = ((a + 2 : Nat) : Int) from fw_a (m := 2) (by omega) (by omega)]
      refine bS (by (try simp (disch := omega) only [fwI]); exact r) ?_
      rfl
    | cons c r =>
     have hc := dq
     have c256 := hs c (drop_mem hc)
     simp only [List.length_cons] at ql
     have nc : nthS s ((a : Int) + 2) = some (c : Int) := nthX (i := a + 2) (by omega) hc
     have dr : s.drop (a + 3) = r := drop_step hc
     by_cases h123 : c = 123
     ·subst h123
      refine (jS (v := true) (fun j => ?_)).trans ?_
      ·simp (disch := omega) only [↓reduceIte, ↓jn, gsL, nc]
      ·refine iT (by first | (simp (disch := omega) only [↓reduceIte, ↓jn, gsL]; done) | rfl) ?_
       have rr := rrunV_at (k := k) hs hl' (p := a + 3) (b := 16) (M := 6) (by decide) (by omega) (by decide) (by omega)
       rw [dr] at rr
       rw [show fW .i64 ((a : Int) + 3) = ((a + 3 : Nat) : Int) from fw_a (m := 3) (by omega) (by omega)]
       refine bS (by (try simp (disch := omega) only [fwI]); exact rr) ?_
       have hvl := digV_le 16 6 0 r
       simp only [hexN, if_true]
       unfold hexBr
       by_cases h0 : (digV 16 6 0 r).2 = 0
       ·rw [if_pos h0]
        refine (jS (v := true) (fun j => ?_)).trans rfl
        rw [h0]; rfl
       ·rw [if_neg h0]
        have ee := fun _ : Unit => fw_a (n := a + 3) (m := (digV 16 6 0 r).2) (by omega) (by omega)
        have dz : s.drop (a + 3 + (digV 16 6 0 r).2) = r.drop (digV 16 6 0 r).2 := by rw [← List.drop_drop, dr]
        cases hz : r.drop (digV 16 6 0 r).2 with
        | nil =>
         have : s.length ≤ a + 3 + (digV 16 6 0 r).2 := by
          have := congrArg List.length (dz.trans hz)
          rw [List.length_drop, List.length_nil] at this
          omega
         refine (jS (v := true) (fun j => ?_)).trans rfl
         rw [ee ()]
         simp (disch := omega) only [↓reduceIte, ↓jn, gsL, h0]
        | cons z qq =>
         rw [hz] at dz
         have nz := nthX (x := ((a + 3 + (digV 16 6 0 r).2 : Nat) : Int)) rfl dz
         have zl := drop_len dz
         by_cases h125 : z = 125
         ·subst h125
          simp only [true_and]
          refine (jS (v := !cpN (digV 16 6 0 r).1) (fun j => ?_)).trans ?_
          ·rw [ee ()]
           simp (disch := omega) only [↓reduceIte, ↓jn, gsL, h0, nz, point_at]
          ·cases cpN (digV 16 6 0 r).1 with
           | false => rfl
           | true =>
            refine iF (by first | (simp (disch := omega) only [↓reduceIte, ↓jn, gsL]; done) | rfl) ?_
            rw [show (4 : Int) = ((4 : Nat) : Int) from rfl, fw_a (by omega) (by omega)]
            rfl
         ·simp only [h125, false_and, if_false]
          refine (jS (v := true) (fun j => ?_)).trans rfl
          rw [ee ()]
          have : ¬ (z : Int) = 125 := by omega
          simp (disch := omega) only [↓reduceIte, ↓jn, gsL, h0, nz, this]
     ·refine (jS (v := false) (fun j => ?_)).trans ?_
      ·have : ¬ (c : Int) = 123 := by omega
       simp (disch := omega) only [↓reduceIte, ↓jn, gsL, nc, this]
      ·refine iF (by first | (simp (disch := omega) only [↓reduceIte, ↓jn, gsL]; done) | rfl) ?_
       refine iT (by first | (simp (disch := omega) only [↓reduceIte, ↓jn, gsL]; done) | rfl) ?_
       have rr := rrunV_at (k := k) hs hl' (p := a + 2) (b := 16) (M := 2) (by decide) (by omega) (by decide) (by omega)
       rw [dq] at rr
       rw [show fW .i64 ((a : Int) + 2) = ((a + 2 : Nat) : Int) from fw_a (m := 2) (by omega) (by omega)]
       refine bS (by (try simp (disch := omega) only [fwI]); exact rr) ?_
       simp only [hexN, h123, if_false]
       unfold hex2
       by_cases h2 : (digV 16 2 0 (c :: r)).2 < 2
       ·rw [if_pos h2]; refine iT (by first | (simp (disch := omega) only [↓reduceIte, ↓jn, gsL]; done) | rfl) ?_; rfl
       ·rw [if_neg h2]; refine iF (by first | (simp (disch := omega) only [↓reduceIte, ↓jn, gsL]; done) | rfl) ?_; rfl
   ·rw [if_neg h120]
    refine (jS (v := false) (fun j => ?_)).trans ?_
    ·simp (disch := omega) only [↓reduceIte, ↓jn, gsL]
    ·refine iF (by first | (simp (disch := omega) only [↓reduceIte, ↓jn, gsL]; done) | rfl) ?_
     refine iF (by first | (simp (disch := omega) only [↓reduceIte, ↓jn, gsL]; done) | rfl) ?_
     by_cases h94 : d = 94
     ·subst h94
      rw [if_pos rfl]
      refine iT (by first | (simp (disch := omega) only [↓reduceIte, ↓jn, gsL]; done) | rfl) ?_
      cases q with
      | nil =>
       simp only [List.length_nil] at ql
       refine (jS (v := true) (fun j => ?_)).trans ?_
       ·simp (disch := omega) only [↓reduceIte, ↓jn, gsL]
       ·rfl
      | cons c r =>
       have hc := dq
       have c256 := hs c (drop_mem hc)
       simp only [List.length_cons] at ql
       have nc : nthS s ((a : Int) + 2) = some (c : Int) := nthX (i := a + 2) (by omega) hc
       by_cases h0 : c < 64 ∨ 95 < c ∧ (c < 97 ∨ 122 < c)
       ·simp only [ctlN, h0, if_true]
        refine (jS (v := true) (fun j => ?_)).trans rfl
        by_cases h1 : c < 64
        ·simp (disch := omega) only [↓reduceIte, ↓jn, gsL, nc]
        ·by_cases h2 : c < 97
         ·simp (disch := omega) only [↓reduceIte, ↓jn, gsL, nc]
         ·simp (disch := omega) only [↓reduceIte, ↓jn, gsL, nc]
       ·simp only [ctlN, h0, if_false]
        refine (jS (v := false) (fun j => ?_)).trans ?_
        ·by_cases h1 : 95 < c
         ·simp (disch := omega) only [↓reduceIte, ↓jn, gsL, nc]
         ·simp (disch := omega) only [↓reduceIte, ↓jn, gsL, nc]
        ·refine iF (by first | (simp (disch := omega) only [↓reduceIte, ↓jn, gsL]; done) | rfl) ?_
         refine bS (by (try simp (disch := omega) only [fwI]); exact nc) ?_
         rw [fwI (n := (c : Int)) (by omega) (by omega), (and31 c256).2]
     ·rw [if_neg h94, if_neg h8, if_pos hd]
      refine iF (by first | (simp (disch := omega) only [↓reduceIte, ↓jn, gsL]; done) | rfl) ?_
      have nx := rnext_at (k := k) (by omega) hs hl' (a + 1)
      rw [hr] at nx
      rw [fw_s (by omega)]
      refine bS (by (try simp (disch := omega) only [fwI]); exact nx) ?_
      unfold uniN
      obtain ⟨n, n1, n2, n3, n4, -⟩ := dec_size (s := d :: q) (by simp)
      by_cases h32 : (dec (d :: q)).1 < 32
      ·rw [if_pos h32]; refine iT (by first | (simp (disch := omega) only [↓reduceIte, ↓jn, gsL, h32]; done) | rfl) ?_; rfl
      ·rw [if_neg h32]; refine iF (by first | (simp (disch := omega) only [↓reduceIte, ↓jn, gsL, h32]; done) | rfl) ?_; rw [n1, show (1 : Int) = ((1 : Nat) : Int) from rfl, fw_a (by clear n1; omega) (by clear n1; omega), Nat.add_comm]; rfl
theorem rescape_at {k : Nat} (hk : 10 ≤ k) {s : List Nat} (hs : By s) (hl : Sz s) (a : Nat) : g42 k s (a : Int) = some (escN (s.drop a)) := by
 have hl' := hl
 unfold Sz at hl
 unfold g42
 have fail : ∀ (f : Bool → Option (Int × Int)) (g : (Bool → Option (Int × Int)) → Option (Int × Int)), f true = some (-1, 0) → (∀ j, g j = j true) → escN (s.drop a) = (-1, 0) → jn f g = some (escN (s.drop a)) := by
  intro f g hf hg he
  rw [he]; exact (hg f).trans hf
 rcases Nat.lt_or_ge a s.length with h | h
 ·obtain ⟨c, r, hc, hr, hm, hrl⟩ := dcons h
  have nc := nthX (x := (a : Int)) rfl hc
  cases hr2 : r with
  | nil =>
   rw [hr2] at hrl hc
   simp only [List.length_nil] at hrl
   refine fail _ _ rfl (fun j => ?_) (by rw [hc]; rfl)
   simp (disch := omega) only [↓reduceIte, ↓jn, gsL]
  | cons d q =>
   rw [hr2] at hr hrl hc
   have d256 := hs d (drop_mem hr)
   simp only [List.length_cons] at hrl
   by_cases h92 : c = 92
   ·subst h92
    have nd : nthS s ((a : Int) + 1) = some (d : Int) := nthX (i := a + 1) (by omega) hr
    refine (jS (v := false) (fun j => ?_)).trans ?_
    ·simp (disch := omega) only [↓reduceIte, ↓jn, gsL, nc]
    ·refine iF (by first | (simp (disch := omega) only [↓reduceIte, ↓jn, gsL]; done) | rfl) ?_
     refine bS (by (try simp (disch := omega) only [fwI]); exact nd) ?_
     rw [hc]
     simp only [escN, if_true]
     obtain ⟨k', rfl⟩ : ∃ k', k = k' + 10 := ⟨k - 10, by omega⟩
     by_cases hd : nameN d = 0
     ·rw [rname_no _ _ _ hd]
      exact rescape_t hk hs hl' hr hd
     ·unfold nameN at hd
      by_cases e1 : d = 98
      ·subst e1; rfl
      by_cases e2 : d = 100
      ·subst e2; rfl
      by_cases e3 : d = 101
      ·subst e3; rfl
      by_cases e4 : d = 102
      ·subst e4; rfl
      by_cases e5 : d = 110
      ·subst e5; rfl
      by_cases e6 : d = 114
      ·subst e6; rfl
      by_cases e7 : d = 115
      ·subst e7; rfl
      by_cases e8 : d = 116
      ·subst e8; rfl
      by_cases e9 : d = 118
      ·subst e9; rfl
      simp only [e1, e2, e3, e4, e5, e6, e7, e8, e9, if_false] at hd
      exact absurd trivial hd
   ·refine fail _ _ rfl (fun j => ?_) (by rw [hc]; exact escN_no h92)
    have h92' : ¬ (c : Int) = 92 := by omega
    simp (disch := omega) only [↓reduceIte, ↓jn, gsL, nc, h92']
 ·refine fail _ _ rfl (fun j => ?_) (by rw [dnil h]; rfl)
  simp (disch := omega) only [↓reduceIte, ↓jn, gsL]
theorem rescape_neg {k : Nat} {s : List Nat} {a : Int} (h : a < 0) : g42 k s a = some (-1, 0) := by
 unfold g42
 rw [decide_eq_true h]; rfl
end Go.Proofs.Ytabhkocokojddaa.Am
set_option maxRecDepth 100000
set_option linter.unusedVariables false
set_option linter.unusedSimpArgs false
namespace Go.Proofs.Ytabhkocokojddaa.Am
open Go
theorem nthL_at {α : Type} {L : List α} {i : Nat} {x : α} {r : List α} (h : L.drop i = x :: r) : nthL L (i : Int) = some x := by
 unfold nthL
 rw [if_pos (by omega), Int.toNat_natCast]
 have := List.getElem?_drop (xs := L) (i := i) (j := 0)
 rw [h] at this
 simpa using this.symm
theorem dconsL {α : Type} {s : List α} {i : Nat} (h : i < s.length) : ∃ b r, s.drop i = b :: r ∧ s.drop (i + 1) = r ∧ b ∈ s ∧ r.length + i + 1 = s.length := by
 refine ⟨s[i], s.drop (i + 1), List.drop_eq_getElem_cons h, rfl, List.getElem_mem h, ?_⟩
 rw [List.length_drop]; omega
end Go.Proofs.Ytabhkocokojddaa.Am
set_option maxRecDepth 100000
set_option linter.unusedVariables false
set_option linter.unusedSimpArgs false
namespace Go.Proofs.Ytabhkocokojddaa.Am
open Go
theorem dec_ascii {c : Nat} (r : List Nat) (h : c < 128) : dec (c :: r) = ((c : Int), 1) := by
 have hl : leadN c = (1, c) := by unfold leadN; rw [if_pos h]
 have hc : cpN c = true := by unfold cpN; simp; omega
 have hm : moreN 0 c r = some c := by cases r <;> rfl
 simp only [dec, hl]
 rw [if_neg (by decide)]
 show fitN 1 (moreN 0 c r) = _
 rw [hm]
 show (if leastN 1 ≤ c ∧ cpN c = true then _ else _) = _
 rw [if_pos ⟨Nat.zero_le _, hc⟩]
 rfl
theorem dec_big {c : Nat} (r : List Nat) (h : ¬ c < 128) : (dec (c :: r)).1 = -1 ∨ 128 ≤ (dec (c :: r)).1 := by
 simp only [dec]
 split
 ·exact .inl rfl
 ·rename_i h0
  unfold fitN
  split
  ·exact .inl rfl
  ·split
   ·rename_i y hy hh
    right
    have : (leadN c).1 = 2 ∨ (leadN c).1 = 3 ∨ (leadN c).1 = 4 := by
     unfold leadN at h0 ⊢
     rw [if_neg h] at h0 ⊢
     split
     ·simp
     ·split
      ·simp
      ·split
       ·simp
       ·rename_i a b c; rw [if_neg a, if_neg b, if_neg c] at h0; exact absurd rfl h0
    have h1 := hh.1
    rcases this with e | e | e <;> rw [e] at h1 <;> simp [leastN] at h1 <;> (show (128 : Int) ≤ (_ : Int); omega)
   ·exact .inl rfl
theorem escN_cases (s : List Nat) : escN s = (-1, 0) ∨ ∃ v n : Nat, escN s = ((v : Int), (n : Int)) ∧ 2 ≤ n ∧ n ≤ s.length := by
 match s with
 | [] => exact .inl rfl
 | [a] => exact .inl rfl
 | a :: c :: r =>
  simp only [escN]
  split
  ·unfold escB
   split
   ·
    unfold hexN
    cases r with
    | nil => exact .inl rfl
    | cons d q =>
     simp only []
     split
     ·unfold hexBr
      split
      ·exact .inl rfl
      ·have h1 := (digV_le 16 6 0 q).2
       split
       ·rename_i hz
        split
        ·right
         refine ⟨_, _, rfl, by omega, ?_⟩
         have := congrArg List.length hz
         simp only [List.length_drop, List.length_cons] at this ⊢
         omega
        ·exact .inl rfl
       ·exact .inl rfl
     ·unfold hex2
      split
      ·exact .inl rfl
      ·have h1 := digV_le 16 2 0 (d :: q)
       right
       refine ⟨_, 4, rfl, by omega, ?_⟩
       simp only [List.length_cons] at h1 ⊢
       omega
   ·split
    ·unfold ctlN
     split
     ·split
      ·exact .inl rfl
      ·right; exact ⟨_, 3, rfl, by omega, by simp⟩
     ·exact .inl rfl
    ·split
     ·right
      rename_i h8
      have h1 := digV_le 8 3 0 (c :: r)
      refine ⟨_, _, rfl, ?_, ?_⟩
      ·have : dgN c < 8 := by unfold dgN; rw [if_pos (by omega)]; omega
       simp only [digV, this, if_true]; omega
      ·simp only [List.length_cons] at h1 ⊢; omega
     ·split
      ·unfold uniN
       split
       ·exact .inl rfl
       ·rename_i h32
        obtain ⟨n, n1, n2, n3, n4, -⟩ := dec_size (s := c :: r) (by simp)
        right
        refine ⟨(dec (c :: r)).1.toNat, n + 1, ?_, by omega, ?_⟩
        ·rw [n1]; refine Prod.ext ?_ ?_
         ·simp only []; omega
         ·simp only []; push_cast; rfl
        ·simp only [List.length_cons] at n4 ⊢; omega
      ·right; exact ⟨_, 2, rfl, by omega, by simp⟩
  ·exact .inl rfl
end Go.Proofs.Ytabhkocokojddaa.Am
set_option maxRecDepth 100000
set_option linter.unusedVariables false
set_option linter.unusedSimpArgs false
namespace Go.Proofs.Ytabhkocokojddaa.Am
open Go
theorem moreN_cont' : ∀ (n c : Nat) (r : List Nat) (y : Nat), moreN n c r = some y → ∀ j, j < n → ∃ b : Nat, r[j]? = some b ∧ b / 64 = 2
 | 0, _, _, _, _, j, hj => by omega
 | n + 1, c, [], y, h, j, hj => by cases h
 | n + 1, c, x :: r, y, h, j, hj => by
  have e : moreN (n + 1) c (x :: r) = if x / 64 = 2 then moreN n (c * 64 + x % 64) r else none := rfl
  rw [e] at h
  split at h
  ·cases j with
   | zero => exact ⟨x, rfl, by assumption⟩
   | succ j => exact moreN_cont' n _ r y h j (by omega)
  ·cases h
end Go.Proofs.Ytabhkocokojddaa.Am
set_option maxRecDepth 100000
set_option linter.unusedVariables false
namespace Go.Proofs.Ytabhkocokojddaa.Am
noncomputable section
open Go
def X39 : Fx (Int × Int) := ⟨Try.prog, cx, Try.f39, fun r => .tuple [.int .i64 r.1, .int .i64 r.2], 0, fun _ => H0, cxTi, cxOrd⟩
def g39p0 : Pt := nav [0] (bodyAt Try.f39)
def g39p1 : Pt := nav [0, 0, 0, 0] g39p0
def g39p2 : Pt := nav [0, 0] g39p1
def g39p4 : Pt := nav [2, 0, 0] g39p2
def g39p6 : Pt := nav [0, 0, 0, 0] g39p4
def g39p7 : Pt := nav [0, 0] g39p6
def g39p8 : Pt := nav [1, 0] g39p7
def g39p9 : Pt := nav [2, 0, 0, 0] g39p7
def g39p10 : Pt := nav [0, 0, 0] g39p8
def g39p11 : Pt := nav [0, 0] g39p9
def g39p12 : Pt := nav [0, 0] g39p10
def g39 (k : Nat) (a0 : (List Nat)) : Option (Int × Int) :=
 jn (fun (z4 : Bool) => if z4 then (some ((0 : Int), (8 : Int))) else ((g41 k a0 (1 : Int)).bind fun x1_1 => (nthS a0 1).bind fun x2_1 => jn (fun (z6 : Int × Int) => if (!decide (z6.2 = fW .i64 ((a0.length : Int) - 1))) then (some ((0 : Int), (8 : Int))) else (some (z6.1, (0 : Int)))) (fun j6 => if (!decide (x2_1 = 92)) then ((g78 k a0 (1 : Int)).bind fun x3_1 => jn (fun (z5 : Bool) => if z5 then (j6 (x3_1.1, 0)) else (j6 (x3_1.1, x3_1.2))) (fun j5 => if (decide (x3_1.1 ≤ 32)) then (j5 true) else (j5 (decide (x3_1.1 = 127))))) else (j6 (x1_1.1, x1_1.2))))) (fun j4 => if (decide ((a0.length : Int) < 2)) then (j4 true) else ((nthS a0 0).bind fun x0_5 => j4 (!decide (x0_5 = 36))))
theorem g39_ok (k : Nat) (a0 : (List Nat)) (r : (Int × Int)) (h : g39 k a0 = some r) : PureOk Try.prog 39 [.str a0] (.tuple [.int .i64 r.1, .int .i64 r.2]) := by
 refine pure_of X39 (fun _ => rfl) Try.func39 (by decide +kernel) (by kernel_rfl) (t := g39 k a0) ?_ h
 unfold g39
 refine oE (eE := [(0, .str a0)]) (by kernel_rfl) ?_
 let E1 : Env := [(9, .bool (decide ((a0.length : Int) < 2))), (8, .bool (decide ((a0.length : Int) < 2))), (7, .int .i64 (a0.length : Int)), (6, .str a0), (3, .int .i64 0), (2, .int .i64 0), (0, .str a0)]
 refine oR 12 (p' := (atN 4 (ctl1 g39p1))) (eE := E1) (H' := (mkH [])) (by kernel_rfl) ?_
 refine oJ (f := fun (z4 : Bool) => if z4 then (some ((0 : Int), (8 : Int))) else ((g41 k a0 (1 : Int)).bind fun x1_1 => (nthS a0 1).bind fun x2_1 => jn (fun (z6 : Int × Int) => if (!decide (z6.2 = fW .i64 ((a0.length : Int) - 1))) then (some ((0 : Int), (8 : Int))) else (some (z6.1, (0 : Int)))) (fun j6 => if (!decide (x2_1 = 92)) then ((g78 k a0 (1 : Int)).bind fun x3_1 => jn (fun (z5 : Bool) => if z5 then (j6 (x3_1.1, 0)) else (j6 (x3_1.1, x3_1.2))) (fun j5 => if (decide (x3_1.1 ≤ 32)) then (j5 true) else (j5 (decide (x3_1.1 = 127))))) else (j6 (x1_1.1, x1_1.2))))) g39p2 (fun (z4 : Bool) => [(0, .str a0), (13, .bool z4)]) (fun (z4 : Bool) => (mkH [])) (fun z4 => ?_) (fun j4 hj4 => ?_)
 ·refine oS 13 (b := z4) (by kernel_rfl) (fun hb => ?_) (fun hb => ?_)
  ·let E2 : Env := [(3, .int .i64 8), (2, .int .i64 0), (13, .bool true), (0, .str a0), (13, .bool z4)]
   refine oR 7 (p' := .fin) (eE := E2) (H' := (mkH [])) (by kernel_rfl) ?_
   exact oT (r := ((0 : Int), (8 : Int))) (xs := [.int .i64 0, .int .i64 8]) (v := .tuple [.int .i64 0, .int .i64 8]) (by kernel_rfl) (by kernel_rfl) (by kernel_rfl) (.pures (by kernel_rfl)) (by kernel_rfl)
  ·refine oR 5 (p' := (atN 1 (ctl1 g39p4))) (eE := [(15, .str a0), (13, .bool false), (0, .str a0), (13, .bool z4)]) (H' := (mkH [])) (by kernel_rfl) ?_
   refine oC (fun (x1_1 : (Int × Int)) => .tuple [.int .i64 x1_1.1, .int .i64 x1_1.2]) (atN 2 (ctl1 g39p4)) (fun x1_1 => [(16, .tuple [.int .i64 x1_1.1, .int .i64 x1_1.2]), (15, .str a0), (13, .bool false), (0, .str a0), (13, .bool z4)]) (fi := 41) (args := [.str a0, .int .i64 1]) (by kernel_rfl) (by kernel_rfl) (fun _ => by kernel_rfl) (fun r h => g41_ok k a0 (1 : Int) r h) (fun _ => by kernel_rfl) (fun x1_1 hx1_1 => ?_)
   let E3 : Env := [(5, .int .i64 x1_1.2), (4, .int .i64 x1_1.1), (18, .int .i64 x1_1.2), (17, .int .i64 x1_1.1), (14, .tuple [.int .i64 x1_1.1, .int .i64 x1_1.2]), (16, .tuple [.int .i64 x1_1.1, .int .i64 x1_1.2]), (15, .str a0), (13, .bool false), (0, .str a0), (13, .bool z4)]
   refine oR 8 (p' := g39p6) (eE := E3) (H' := (mkH [])) (by kernel_rfl) ?_
   refine oK [0, 4, 5] (eE := [(0, .str a0), (4, .int .i64 x1_1.1), (5, .int .i64 x1_1.2)]) (by kernel_rfl) ?_
   refine oR 2 (p' := (atN 1 (ctl1 g39p6))) (eE := [(19, .str a0), (0, .str a0), (4, .int .i64 x1_1.1), (5, .int .i64 x1_1.2)]) (H' := (mkH [])) (by kernel_rfl) ?_
   refine oH (fun (x2_1 : Int) => (.int .u8 x2_1, (mkH []))) (atN 2 (ctl1 g39p6)) (fun x2_1 => [(20, .int .u8 x2_1), (19, .str a0), (0, .str a0), (4, .int .i64 x1_1.1), (5, .int .i64 x1_1.2)]) (idxH (by kernel_rfl)) (fun _ => by kernel_rfl) (fun x2_1 hx2_1 => ?_)
   let E4 : Env := [(21, .bool (!decide (x2_1 = 92))), (20, .int .u8 x2_1), (19, .str a0), (0, .str a0), (4, .int .i64 x1_1.1), (5, .int .i64 x1_1.2)]
   refine oR 2 (p' := g39p7) (eE := E4) (H' := (mkH [])) (by kernel_rfl) ?_
   refine oJ (f := fun (z6 : Int × Int) => if (!decide (z6.2 = fW .i64 ((a0.length : Int) - 1))) then (some ((0 : Int), (8 : Int))) else (some (z6.1, (0 : Int)))) g39p9 (fun (z6 : Int × Int) => [(0, .str a0), (4, .int .i64 z6.1), (5, .int .i64 z6.2)]) (fun (z6 : Int × Int) => (mkH [])) (fun z6 => ?_) (fun j6 hj6 => ?_)
   ·let E5 : Env := [(37, .bool (!decide (z6.2 = fW .i64 ((a0.length : Int) - 1)))), (36, .int .i64 (fW .i64 ((a0.length : Int) - 1))), (35, .int .i64 (a0.length : Int)), (34, .str a0), (33, .int .i64 z6.2), (0, .str a0), (4, .int .i64 z6.1), (5, .int .i64 z6.2)]
    refine oR 7 (p' := g39p11) (eE := E5) (H' := (mkH [])) (by kernel_rfl) ?_
    refine oS 37 (b := !decide (z6.2 = fW .i64 ((a0.length : Int) - 1))) (by kernel_rfl) (fun hb => ?_) (fun hb => ?_)
    ·refine oR 7 (p' := .fin) (eE := ((3, .int .i64 8) :: (2, .int .i64 0) :: (37, .bool true) :: E5)) (H' := (mkH [])) (by kernel_rfl) ?_
     exact oT (r := ((0 : Int), (8 : Int))) (xs := [.int .i64 0, .int .i64 8]) (v := .tuple [.int .i64 0, .int .i64 8]) (by kernel_rfl) (by kernel_rfl) (by kernel_rfl) (.pures (by kernel_rfl)) (by kernel_rfl)
    ·refine oR 9 (p' := .fin) (eE := ((3, .int .i64 0) :: (2, .int .i64 z6.1) :: (38, .int .i64 z6.1) :: (37, .bool false) :: E5)) (H' := (mkH [])) (by kernel_rfl) ?_
     exact oT (r := (z6.1, (0 : Int))) (xs := [.int .i64 z6.1, .int .i64 0]) (v := .tuple [.int .i64 z6.1, .int .i64 0]) (by kernel_rfl) (by kernel_rfl) (by kernel_rfl) (.pures (by kernel_rfl)) (by kernel_rfl)
   ·refine oS 21 (b := !decide (x2_1 = 92)) (by kernel_rfl) (fun hb => ?_) (fun hb => ?_)
    ·refine oR 4 (p' := (atN 1 (ctl1 g39p8))) (eE := ((23, .str a0) :: (21, .bool true) :: E4)) (H' := (mkH [])) (by kernel_rfl) ?_
     refine oC (fun (x3_1 : (Int × Int)) => .tuple [.int .i64 x3_1.1, .int .i64 x3_1.2]) (atN 2 (ctl1 g39p8)) (fun x3_1 => ((24, .tuple [.int .i64 x3_1.1, .int .i64 x3_1.2]) :: (23, .str a0) :: (21, .bool true) :: E4)) (fi := 78) (args := [.str a0, .int .i64 1]) (by kernel_rfl) (by kernel_rfl) (fun _ => by kernel_rfl) (fun r h => g78_ok k a0 (1 : Int) r h) (fun _ => by kernel_rfl) (fun x3_1 hx3_1 => ?_)
     let E6 : Env := ((5, .int .i64 x3_1.2) :: (4, .int .i64 x3_1.1) :: (26, .int .i64 x3_1.2) :: (25, .int .i64 x3_1.1) :: (22, .tuple [.int .i64 x3_1.1, .int .i64 x3_1.2]) :: (24, .tuple [.int .i64 x3_1.1, .int .i64 x3_1.2]) :: (23, .str a0) :: (21, .bool true) :: E4)
     refine oR 7 (p' := g39p10) (eE := E6) (H' := (mkH [])) (by kernel_rfl) ?_
     refine oK [0, 4, 5] (eE := [(0, .str a0), (4, .int .i64 x3_1.1), (5, .int .i64 x3_1.2)]) (by kernel_rfl) ?_
     let E7 : Env := [(29, .bool (decide (x3_1.1 ≤ 32))), (28, .bool (decide (x3_1.1 ≤ 32))), (27, .int .i64 x3_1.1), (0, .str a0), (4, .int .i64 x3_1.1), (5, .int .i64 x3_1.2)]
     refine oR 4 (p' := (atN 3 (ctl1 g39p10))) (eE := E7) (H' := (mkH [])) (by kernel_rfl) ?_
     refine oJ (f := fun (z5 : Bool) => if z5 then (j6 (x3_1.1, 0)) else (j6 (x3_1.1, x3_1.2))) g39p12 (fun (z5 : Bool) => [(0, .str a0), (4, .int .i64 x3_1.1), (5, .int .i64 x3_1.2), (32, .bool z5)]) (fun (z5 : Bool) => (mkH [])) (fun z5 => ?_) (fun j5 hj5 => ?_)
     ·refine oS 32 (b := z5) (by kernel_rfl) (fun hb => ?_) (fun hb => ?_)
      ·let E8 : Env := [(5, .int .i64 0), (32, .bool true), (0, .str a0), (4, .int .i64 x3_1.1), (5, .int .i64 x3_1.2), (32, .bool z5)]
       refine oR 6 (p' := g39p9) (eE := E8) (H' := (mkH [])) (by kernel_rfl) ?_
       refine oK [0, 4, 5] (eE := [(0, .str a0), (4, .int .i64 x3_1.1), (5, .int .i64 0)]) (by kernel_rfl) ?_
       exact hj6 (x3_1.1, 0)
      ·let E9 : Env := [(32, .bool false), (0, .str a0), (4, .int .i64 x3_1.1), (5, .int .i64 x3_1.2), (32, .bool z5)]
       refine oR 4 (p' := g39p9) (eE := E9) (H' := (mkH [])) (by kernel_rfl) ?_
       refine oK [0, 4, 5] (eE := [(0, .str a0), (4, .int .i64 x3_1.1), (5, .int .i64 x3_1.2)]) (by kernel_rfl) ?_
       exact hj6 (x3_1.1, x3_1.2)
     ·refine oS 29 (b := decide (x3_1.1 ≤ 32)) (by kernel_rfl) (fun hb => ?_) (fun hb => ?_)
      ·refine oR 4 (p' := g39p12) (eE := ((32, .bool true) :: (31, .tuple []) :: (30, .tuple []) :: (29, .bool true) :: E7)) (H' := (mkH [])) (by kernel_rfl) ?_
       refine oK [0, 4, 5, 32] (eE := [(0, .str a0), (4, .int .i64 x3_1.1), (5, .int .i64 x3_1.2), (32, .bool true)]) (by kernel_rfl) ?_
       exact hj5 true
      ·refine oR 4 (p' := g39p12) (eE := ((32, .bool (decide (x3_1.1 = 127))) :: (31, .bool (decide (x3_1.1 = 127))) :: (30, .int .i64 x3_1.1) :: (29, .bool false) :: E7)) (H' := (mkH [])) (by kernel_rfl) ?_
       refine oK [0, 4, 5, 32] (eE := [(0, .str a0), (4, .int .i64 x3_1.1), (5, .int .i64 x3_1.2), (32, .bool (decide (x3_1.1 = 127)))]) (by kernel_rfl) ?_
       exact hj5 (decide (x3_1.1 = 127))
    ·refine oR 4 (p' := g39p9) (eE := ((21, .bool false) :: E4)) (H' := (mkH [])) (by kernel_rfl) ?_
     refine oK [0, 4, 5] (eE := [(0, .str a0), (4, .int .i64 x1_1.1), (5, .int .i64 x1_1.2)]) (by kernel_rfl) ?_
     exact hj6 (x1_1.1, x1_1.2)
 ·refine oS 9 (b := decide ((a0.length : Int) < 2)) (by kernel_rfl) (fun hb => ?_) (fun hb => ?_)
  ·let E10 : Env := ((13, .bool true) :: (12, .tuple []) :: (11, .tuple []) :: (10, .tuple []) :: (9, .bool true) :: E1)
   refine oR 5 (p' := g39p2) (eE := E10) (H' := (mkH [])) (by kernel_rfl) ?_
   refine oK [0, 13] (eE := [(0, .str a0), (13, .bool true)]) (by kernel_rfl) ?_
   exact hj4 true
  ·refine oR 1 (p' := (atN 5 (ctl1 g39p1))) (eE := ((10, .str a0) :: (9, .bool false) :: E1)) (H' := (mkH [])) (by kernel_rfl) ?_
   refine oH (fun (x0_5 : Int) => (.int .u8 x0_5, (mkH []))) (atN 6 (ctl1 g39p1)) (fun x0_5 => ((11, .int .u8 x0_5) :: (10, .str a0) :: (9, .bool false) :: E1)) (idxH (by kernel_rfl)) (fun _ => by kernel_rfl) (fun x0_5 hx0_5 => ?_)
   let E11 : Env := ((13, .bool (!decide (x0_5 = 36))) :: (12, .bool (!decide (x0_5 = 36))) :: (11, .int .u8 x0_5) :: (10, .str a0) :: (9, .bool false) :: E1)
   refine oR 3 (p' := g39p2) (eE := E11) (H' := (mkH [])) (by kernel_rfl) ?_
   refine oK [0, 13] (eE := [(0, .str a0), (13, .bool (!decide (x0_5 = 36)))]) (by kernel_rfl) ?_
   exact hj4 (!decide (x0_5 = 36))
end
end Go.Proofs.Ytabhkocokojddaa.Am
set_option maxRecDepth 100000
set_option linter.unusedVariables false
namespace Go.Proofs.Ytabhkocokojddaa.Am
noncomputable section
open Go
def X43 : Fx ((List Int) × Int) := ⟨Try.prog, cx, Try.f43, fun r => .tuple [.vec (r.1).length 1 ((r.1).flatMap e3), .int .i64 r.2], 0, fun _ => H0, cxTi, cxOrd⟩
def g43p0 : Pt := nav [0] (bodyAt Try.f43)
def g43p1 : Pt := nav [0, 0, 0, 0] g43p0
def g43p2 : Pt := nav [0] g43p1
def g43p4 : Pt := nav [2, 0, 0] g43p2
def g43p6 : Pt := nav [0, 0, 0] g43p4
def g43p7 : Pt := nav [0, 0, 0, 0, 0] g43p6
def g43p8 : Pt := nav [0, 0, 0] g43p7
def g43p9 : Pt := nav [0, 0] g43p8
def g43p10 : Pt := nav [1, 0, 0, 0] g43p9
def g43p11 : Pt := nav [2, 0, 0, 0] g43p9
def g43p12 : Pt := nav [0, 0, 0, 0, 0] g43p10
def g43p13 : Pt := nav [0, 0] g43p11
def g43p14 : Pt := nav [0, 0] g43p12
def g43p17 : Pt := nav [1, 0] g43p14
def g43p18 : Pt := nav [2, 0] g43p14
def g43p19 : Pt := nav [0, 0, 0] g43p17
def g43p20 : Pt := nav [0] g43p18
def g43p21 : Pt := nav [0, 0] g43p19
def g43p23 : Pt := nav [2, 0] g43p20
def g43_l7 (k : Nat)  (a0 : (List Nat)) (n : Nat) : Int → (List Int) → Option ((List Int) × Int) :=
 Nat.rec (motive := fun _ => Int → (List Int) → Option ((List Int) × Int)) (fun _ _ => none) (fun _ ih => fun (y7_0 : Int) (y7_1 : (List Int)) => if (decide (y7_0 < fW .i64 ((a0.length : Int) - 1))) then ((g78 k a0 y7_0).bind fun x1_2 => (nthS a0 y7_0).bind fun x2_2 => jn (fun (z8 : Int × Int × Int × (List Int)) => (appS 8 z8.2.2.2 ([z8.2.1] : List Int)).bind fun x5_3 => ih (fW .i64 (z8.2.2.1 + z8.1)) x5_3) (fun j8 => if (decide (x2_2 = 92)) then ((subL a0 none (some (fW .i64 ((a0.length : Int) - 1)))).bind fun x3_2 => (g41 k x3_2 y7_0).bind fun x3_4 => if (decide (x3_4.2 = 0)) then (some (([] : List Int), (8 : Int))) else (j8 (x3_4.2, x3_4.1, y7_0, y7_1))) else (jn (fun (z9 : Bool × Int × (List Int)) => if z9.1 then (some (([] : List Int), (8 : Int))) else (j8 (x1_2.2, x1_2.1, z9.2.1, z9.2.2))) (fun j9 => (nthS a0 y7_0).bind fun x4_2 => (nthS a0 0).bind fun x4_4 => if (decide (x4_2 = x4_4)) then (j9 (true, y7_0, y7_1)) else (j9 (decide (x1_2.1 < 32), y7_0, y7_1)))))) else (if (!decide (y7_0 = fW .i64 ((a0.length : Int) - 1))) then (some (([] : List Int), (8 : Int))) else (some (y7_1, (0 : Int))))) n
theorem g43_l7_s (k : Nat)  (a0 : (List Nat)) (n : Nat) (y7_0 : Int) (y7_1 : (List Int)) : g43_l7 k a0 (n + 1) y7_0 y7_1 = (if (decide (y7_0 < fW .i64 ((a0.length : Int) - 1))) then ((g78 k a0 y7_0).bind fun x1_2 => (nthS a0 y7_0).bind fun x2_2 => jn (fun (z8 : Int × Int × Int × (List Int)) => (appS 8 z8.2.2.2 ([z8.2.1] : List Int)).bind fun x5_3 => (g43_l7 k a0 n) (fW .i64 (z8.2.2.1 + z8.1)) x5_3) (fun j8 => if (decide (x2_2 = 92)) then ((subL a0 none (some (fW .i64 ((a0.length : Int) - 1)))).bind fun x3_2 => (g41 k x3_2 y7_0).bind fun x3_4 => if (decide (x3_4.2 = 0)) then (some (([] : List Int), (8 : Int))) else (j8 (x3_4.2, x3_4.1, y7_0, y7_1))) else (jn (fun (z9 : Bool × Int × (List Int)) => if z9.1 then (some (([] : List Int), (8 : Int))) else (j8 (x1_2.2, x1_2.1, z9.2.1, z9.2.2))) (fun j9 => (nthS a0 y7_0).bind fun x4_2 => (nthS a0 0).bind fun x4_4 => if (decide (x4_2 = x4_4)) then (j9 (true, y7_0, y7_1)) else (j9 (decide (x1_2.1 < 32), y7_0, y7_1)))))) else (if (!decide (y7_0 = fW .i64 ((a0.length : Int) - 1))) then (some (([] : List Int), (8 : Int))) else (some (y7_1, (0 : Int))))) := rfl
theorem g43_l7_ok (k : Nat)  (a0 : (List Nat))  : ∀ (n : Nat) (y7_0 : Int) (y7_1 : (List Int)), Ok X43 g43p7 [(0, .str a0), (4, .own 0 (y7_1).length 1), (5, .int .i64 y7_0), (6, .int .i64 (fW .i64 ((a0.length : Int) - 1)))] (mkH [⟨(y7_1).flatMap e3, 0, false⟩]) (g43_l7 k a0 n y7_0 y7_1)
 | 0, _, _ => ok_none
 | n + 1, y7_0, y7_1 => by
  have ih := g43_l7_ok k a0 n
  rw [g43_l7_s]
  refine ok_ent (p' := nav [0] g43p7) (by kernel_rfl) ?_
  let E3 : Env := [(37, .bool (decide (y7_0 < fW .i64 ((a0.length : Int) - 1)))), (36, .int .i64 (fW .i64 ((a0.length : Int) - 1))), (35, .int .i64 y7_0), (0, .str a0), (4, .own 0 (y7_1).length 1), (5, .int .i64 y7_0), (6, .int .i64 (fW .i64 ((a0.length : Int) - 1)))]
  refine oR 7 (p' := g43p9) (eE := E3) (H' := (mkH [⟨(y7_1).flatMap e3, 0, false⟩])) (by kernel_rfl) ?_
  refine oS 37 (b := decide (y7_0 < fW .i64 ((a0.length : Int) - 1))) (by kernel_rfl) (fun hb => ?_) (fun hb => ?_)
  ·refine oR 7 (p' := (atN 2 (ctl1 g43p10))) (eE := ((40, .int .i64 y7_0) :: (39, .str a0) :: (37, .bool true) :: E3)) (H' := (mkH [⟨(y7_1).flatMap e3, 0, false⟩])) (by kernel_rfl) ?_
   refine oC (fun (x1_2 : (Int × Int)) => .tuple [.int .i64 x1_2.1, .int .i64 x1_2.2]) (atN 3 (ctl1 g43p10)) (fun x1_2 => ((41, .tuple [.int .i64 x1_2.1, .int .i64 x1_2.2]) :: (40, .int .i64 y7_0) :: (39, .str a0) :: (37, .bool true) :: E3)) (fi := 78) (args := [.str a0, .int .i64 y7_0]) (by kernel_rfl) (by kernel_rfl) (fun _ => by kernel_rfl) (fun r h => g78_ok k a0 y7_0 r h) (fun _ => by kernel_rfl) (fun x1_2 hx1_2 => ?_)
   let E4 : Env := ((8, .int .i64 x1_2.2) :: (7, .int .i64 x1_2.1) :: (43, .int .i64 x1_2.2) :: (42, .int .i64 x1_2.1) :: (38, .tuple [.int .i64 x1_2.1, .int .i64 x1_2.2]) :: (41, .tuple [.int .i64 x1_2.1, .int .i64 x1_2.2]) :: (40, .int .i64 y7_0) :: (39, .str a0) :: (37, .bool true) :: E3)
   refine oR 9 (p' := g43p12) (eE := E4) (H' := (mkH [⟨(y7_1).flatMap e3, 0, false⟩])) (by kernel_rfl) ?_
   refine oK [0, 4, 5, 6, 7, 8] (eE := [(0, .str a0), (4, .own 0 (y7_1).length 1), (5, .int .i64 y7_0), (6, .int .i64 (fW .i64 ((a0.length : Int) - 1))), (7, .int .i64 x1_2.1), (8, .int .i64 x1_2.2)]) (by kernel_rfl) ?_
   let E5 : Env := [(46, .int .i64 y7_0), (45, .str a0), (0, .str a0), (4, .own 0 (y7_1).length 1), (5, .int .i64 y7_0), (6, .int .i64 (fW .i64 ((a0.length : Int) - 1))), (7, .int .i64 x1_2.1), (8, .int .i64 x1_2.2)]
   refine oR 3 (p' := (atN 2 (ctl1 g43p12))) (eE := E5) (H' := (mkH [⟨(y7_1).flatMap e3, 0, false⟩])) (by kernel_rfl) ?_
   refine oH (fun (x2_2 : Int) => (.int .u8 x2_2, (mkH [⟨(y7_1).flatMap e3, 0, false⟩]))) (atN 3 (ctl1 g43p12)) (fun x2_2 => ((47, .int .u8 x2_2) :: E5)) (idxH (by kernel_rfl)) (fun _ => by kernel_rfl) (fun x2_2 hx2_2 => ?_)
   refine oR 3 (p' := g43p14) (eE := ((44, .bool (decide (x2_2 = 92))) :: (48, .bool (decide (x2_2 = 92))) :: (47, .int .u8 x2_2) :: E5)) (H' := (mkH [⟨(y7_1).flatMap e3, 0, false⟩])) (by kernel_rfl) ?_
   refine oJ (f := fun (z8 : Int × Int × Int × (List Int)) => (appS 8 z8.2.2.2 ([z8.2.1] : List Int)).bind fun x5_3 => (g43_l7 k a0 n) (fW .i64 (z8.2.2.1 + z8.1)) x5_3) g43p23 (fun (z8 : Int × Int × Int × (List Int)) => [(0, .str a0), (4, .own 0 (z8.2.2.2).length 1), (5, .int .i64 z8.2.2.1), (6, .int .i64 (fW .i64 ((a0.length : Int) - 1))), (7, .int .i64 z8.2.1), (8, .int .i64 z8.1)]) (fun (z8 : Int × Int × Int × (List Int)) => (mkH [⟨(z8.2.2.2).flatMap e3, 0, false⟩])) (fun z8 => ?_) (fun j8 hj8 => ?_)
   ·let E6 : Env := [(72, .slice 1 1 0 1 1), (71, .int .i64 z8.2.1), (70, .own 0 (z8.2.2.2).length 1), (0, .str a0), (4, .own 0 (z8.2.2.2).length 1), (5, .int .i64 z8.2.2.1), (6, .int .i64 (fW .i64 ((a0.length : Int) - 1))), (7, .int .i64 z8.2.1), (8, .int .i64 z8.1)]
    refine oR 4 (p' := (atN 3 (ctl1 g43p23))) (eE := E6) (H' := (mkH [⟨(z8.2.2.2).flatMap e3, 0, false⟩, ⟨[.int .i64 z8.2.1], 0, false⟩])) (by kernel_rfl) ?_
    refine oH (fun (x5_3 : (List Int)) => (.own 0 (x5_3).length 1, (mkH [⟨(x5_3).flatMap e3, 0, false⟩, ⟨[.int .i64 z8.2.1], 0, false⟩]))) (atN 4 (ctl1 g43p23)) (fun x5_3 => ((73, .own 0 (x5_3).length 1) :: E6)) (appH (sz := 1) e3_len rfl e3_one [⟨(z8.2.2.2).flatMap e3, 0, false⟩, ⟨[.int .i64 z8.2.1], 0, false⟩] 0 8 z8.2.2.2 ([z8.2.1] : List Int) rfl rfl (by kernel_rfl)) (fun _ => by kernel_rfl) (fun x5_3 hx5_3 => ?_)
    let E7 : Env := ((5, .int .i64 (fW .i64 (z8.2.2.1 + z8.1))) :: (4, .own 0 (x5_3).length 1) :: (76, .int .i64 (fW .i64 (z8.2.2.1 + z8.1))) :: (75, .int .i64 z8.1) :: (74, .int .i64 z8.2.2.1) :: (73, .own 0 (x5_3).length 1) :: E6)
    refine oR 6 (p' := g43p7) (eE := E7) (H' := (mkH [⟨(x5_3).flatMap e3, 0, false⟩, ⟨[.int .i64 z8.2.1], 0, false⟩])) (by kernel_rfl) ?_
    refine oK [0, 4, 5, 6] (eE := [(0, .str a0), (4, .own 0 (x5_3).length 1), (5, .int .i64 (fW .i64 (z8.2.2.1 + z8.1))), (6, .int .i64 (fW .i64 ((a0.length : Int) - 1)))]) (by kernel_rfl) ?_
    refine ok_cut [⟨(x5_3).flatMap e3, 0, false⟩] [⟨[.int .i64 z8.2.1], 0, false⟩] (by kernel_rfl) rfl (by kernel_rfl) ⟨(purs_belows _ (purs_flatMap e3_pur _)), trivial⟩ ?_
    exact ih (fW .i64 (z8.2.2.1 + z8.1)) x5_3
   ·refine oS 44 (b := decide (x2_2 = 92)) (by kernel_rfl) (fun hb => ?_) (fun hb => ?_)
    ·let E8 : Env := ((51, .int .i64 (fW .i64 ((a0.length : Int) - 1))) :: (50, .str a0) :: (44, .bool true) :: (44, .bool (decide (x2_2 = 92))) :: (48, .bool (decide (x2_2 = 92))) :: (47, .int .u8 x2_2) :: E5)
     refine oR 5 (p' := (atN 2 (ctl1 g43p17))) (eE := E8) (H' := (mkH [⟨(y7_1).flatMap e3, 0, false⟩])) (by kernel_rfl) ?_
     refine oH (fun (x3_2 : (List Nat)) => (.str x3_2, (mkH [⟨(y7_1).flatMap e3, 0, false⟩]))) (atN 3 (ctl1 g43p17)) (fun x3_2 => ((52, .str x3_2) :: E8)) (subH none (some (fW .i64 ((a0.length : Int) - 1))) (by kernel_rfl)) (fun _ => by kernel_rfl) (fun x3_2 hx3_2 => ?_)
     refine oR 1 (p' := (atN 4 (ctl1 g43p17))) (eE := ((53, .int .i64 y7_0) :: (52, .str x3_2) :: E8)) (H' := (mkH [⟨(y7_1).flatMap e3, 0, false⟩])) (by kernel_rfl) ?_
     refine oC (fun (x3_4 : (Int × Int)) => .tuple [.int .i64 x3_4.1, .int .i64 x3_4.2]) (atN 5 (ctl1 g43p17)) (fun x3_4 => ((54, .tuple [.int .i64 x3_4.1, .int .i64 x3_4.2]) :: (53, .int .i64 y7_0) :: (52, .str x3_2) :: E8)) (fi := 41) (args := [.str x3_2, .int .i64 y7_0]) (by kernel_rfl) (by kernel_rfl) (fun _ => by kernel_rfl) (fun r h => g41_ok k x3_2 y7_0 r h) (fun _ => by kernel_rfl) (fun x3_4 hx3_4 => ?_)
     let E9 : Env := ((8, .int .i64 x3_4.2) :: (7, .int .i64 x3_4.1) :: (56, .int .i64 x3_4.2) :: (55, .int .i64 x3_4.1) :: (49, .tuple [.int .i64 x3_4.1, .int .i64 x3_4.2]) :: (54, .tuple [.int .i64 x3_4.1, .int .i64 x3_4.2]) :: (53, .int .i64 y7_0) :: (52, .str x3_2) :: E8)
     refine oR 7 (p' := g43p19) (eE := E9) (H' := (mkH [⟨(y7_1).flatMap e3, 0, false⟩])) (by kernel_rfl) ?_
     refine oK [0, 4, 5, 6, 7, 8] (eE := [(0, .str a0), (4, .own 0 (y7_1).length 1), (5, .int .i64 y7_0), (6, .int .i64 (fW .i64 ((a0.length : Int) - 1))), (7, .int .i64 x3_4.1), (8, .int .i64 x3_4.2)]) (by kernel_rfl) ?_
     let E10 : Env := [(58, .bool (decide (x3_4.2 = 0))), (57, .int .i64 x3_4.2), (0, .str a0), (4, .own 0 (y7_1).length 1), (5, .int .i64 y7_0), (6, .int .i64 (fW .i64 ((a0.length : Int) - 1))), (7, .int .i64 x3_4.1), (8, .int .i64 x3_4.2)]
     refine oR 4 (p' := g43p21) (eE := E10) (H' := (mkH [⟨(y7_1).flatMap e3, 0, false⟩])) (by kernel_rfl) ?_
     refine oS 58 (b := decide (x3_4.2 = 0)) (by kernel_rfl) (fun hb => ?_) (fun hb => ?_)
     ·refine oR 7 (p' := .fin) (eE := ((3, .int .i64 8) :: (2, .nils) :: (58, .bool true) :: E10)) (H' := (mkH [⟨(y7_1).flatMap e3, 0, false⟩])) (by kernel_rfl) ?_
      exact oT (r := (([] : List Int), (8 : Int))) (xs := [.nils, .int .i64 8]) (v := .tuple [.vec 0 1 [], .int .i64 8]) (by kernel_rfl) (by kernel_rfl) (by kernel_rfl) (.tuple (.nil (.pures (by kernel_rfl))) (.pures (by kernel_rfl))) (by kernel_rfl)
     ·refine oR 2 (p' := g43p23) (eE := ((58, .bool false) :: E10)) (H' := (mkH [⟨(y7_1).flatMap e3, 0, false⟩])) (by kernel_rfl) ?_
      refine oK [0, 4, 5, 6, 7, 8] (eE := [(0, .str a0), (4, .own 0 (y7_1).length 1), (5, .int .i64 y7_0), (6, .int .i64 (fW .i64 ((a0.length : Int) - 1))), (7, .int .i64 x3_4.1), (8, .int .i64 x3_4.2)]) (by kernel_rfl) ?_
      exact hj8 (x3_4.2, x3_4.1, y7_0, y7_1)
    ·refine oR 2 (p' := g43p18) (eE := ((44, .bool false) :: (44, .bool (decide (x2_2 = 92))) :: (48, .bool (decide (x2_2 = 92))) :: (47, .int .u8 x2_2) :: E5)) (H' := (mkH [⟨(y7_1).flatMap e3, 0, false⟩])) (by kernel_rfl) ?_
     refine oJ (f := fun (z9 : Bool × Int × (List Int)) => if z9.1 then (some (([] : List Int), (8 : Int))) else (j8 (x1_2.2, x1_2.1, z9.2.1, z9.2.2))) g43p20 (fun (z9 : Bool × Int × (List Int)) => [(0, .str a0), (4, .own 0 (z9.2.2).length 1), (5, .int .i64 z9.2.1), (6, .int .i64 (fW .i64 ((a0.length : Int) - 1))), (7, .int .i64 x1_2.1), (8, .int .i64 x1_2.2), (59, .bool z9.1)]) (fun (z9 : Bool × Int × (List Int)) => (mkH [⟨(z9.2.2).flatMap e3, 0, false⟩])) (fun z9 => ?_) (fun j9 hj9 => ?_)
     ·refine oS 59 (b := z9.1) (by kernel_rfl) (fun hb => ?_) (fun hb => ?_)
      ·let E12 : Env := [(3, .int .i64 8), (2, .nils), (59, .bool true), (0, .str a0), (4, .own 0 (z9.2.2).length 1), (5, .int .i64 z9.2.1), (6, .int .i64 (fW .i64 ((a0.length : Int) - 1))), (7, .int .i64 x1_2.1), (8, .int .i64 x1_2.2), (59, .bool z9.1)]
       refine oR 7 (p' := .fin) (eE := E12) (H' := (mkH [⟨(z9.2.2).flatMap e3, 0, false⟩])) (by kernel_rfl) ?_
       exact oT (r := (([] : List Int), (8 : Int))) (xs := [.nils, .int .i64 8]) (v := .tuple [.vec 0 1 [], .int .i64 8]) (by kernel_rfl) (by kernel_rfl) (by kernel_rfl) (.tuple (.nil (.pures (by kernel_rfl))) (.pures (by kernel_rfl))) (by kernel_rfl)
      ·let E13 : Env := [(59, .bool false), (0, .str a0), (4, .own 0 (z9.2.2).length 1), (5, .int .i64 z9.2.1), (6, .int .i64 (fW .i64 ((a0.length : Int) - 1))), (7, .int .i64 x1_2.1), (8, .int .i64 x1_2.2), (59, .bool z9.1)]
       refine oR 2 (p' := g43p23) (eE := E13) (H' := (mkH [⟨(z9.2.2).flatMap e3, 0, false⟩])) (by kernel_rfl) ?_
       refine oK [0, 4, 5, 6, 7, 8] (eE := [(0, .str a0), (4, .own 0 (z9.2.2).length 1), (5, .int .i64 z9.2.1), (6, .int .i64 (fW .i64 ((a0.length : Int) - 1))), (7, .int .i64 x1_2.1), (8, .int .i64 x1_2.2)]) (by kernel_rfl) ?_
       exact hj8 (x1_2.2, x1_2.1, z9.2.1, z9.2.2)
     ·refine ok_bind (fun x4_2 hx4_2 => ?_)
      refine ok_bind (fun x4_4 hx4_4 => ?_)
      refine ok_if (fun hb8 => ?_) (fun hb8 => ?_)
      ·let E14 : Env := [(61, .int .i64 y7_0), (60, .str a0), (44, .bool false), (44, .bool (decide (x2_2 = 92))), (48, .bool (decide (x2_2 = 92))), (47, .int .u8 x2_2), (46, .int .i64 y7_0), (45, .str a0), (0, .str a0), (4, .own 0 (y7_1).length 1), (5, .int .i64 y7_0), (6, .int .i64 (fW .i64 ((a0.length : Int) - 1))), (7, .int .i64 x1_2.1), (8, .int .i64 x1_2.2)]
       let E15 : Env := ((66, .bool (decide (x4_2 = x4_4))) :: (65, .bool (decide (x4_2 = x4_4))) :: (64, .int .u8 x4_4) :: (63, .str a0) :: (62, .int .u8 x4_2) :: E14)
       let E16 : Env := [(59, .bool true), (69, .bool true), (68, .tuple []), (67, .tuple []), (66, .bool true), (65, .bool true), (64, .int .u8 x4_4), (63, .str a0), (62, .int .u8 x4_2), (61, .int .i64 y7_0), (60, .str a0), (44, .bool false), (44, .bool (decide (x2_2 = 92))), (48, .bool (decide (x2_2 = 92))), (47, .int .u8 x2_2), (46, .int .i64 y7_0), (45, .str a0), (0, .str a0), (4, .own 0 (y7_1).length 1), (5, .int .i64 y7_0), (6, .int .i64 (fW .i64 ((a0.length : Int) - 1))), (7, .int .i64 x1_2.1), (8, .int .i64 x1_2.2)]
       refine ok_draw (p' := nav [0] g43p18) (eE := E16) (H' := (mkH [⟨(y7_1).flatMap e3, 0, false⟩])) (hs := []) [(0, 0, 0), (0, 0, 0), (3, 0, 0), (0, 0, 0), (8, 0, 0), (31, 0, 0), (63, 0, 0), (127, 0, 0), (255, 0, 0), (511, 0, 0), (1023, 0, 0)] (by kernel_rfl) (by kernel_rfl) (by kernel_rfl) (opsD_run 2 (l' := (opsAt g43p18).toList.drop 2) (eE := E14) (H' := (mkH [⟨(y7_1).flatMap e3, 0, false⟩])) (hs := []) (by kernel_rfl) (opsD_chk (l' := (opsAt g43p18).toList.drop 3) (eE := ((62, .int .u8 x4_2) :: E14)) (hs := []) (x := x4_2) (fun (x4_2 : Int) => (.int .u8 x4_2, (mkH [⟨(y7_1).flatMap e3, 0, false⟩]))) (idxH (by kernel_rfl)) hx4_2 (by kernel_rfl) (opsD_run 1 (l' := (opsAt g43p18).toList.drop 4) (eE := ((63, .str a0) :: (62, .int .u8 x4_2) :: E14)) (H' := (mkH [⟨(y7_1).flatMap e3, 0, false⟩])) (hs := []) (by kernel_rfl) (opsD_chk (l' := (opsAt g43p18).toList.drop 5) (eE := ((64, .int .u8 x4_4) :: (63, .str a0) :: (62, .int .u8 x4_2) :: E14)) (hs := []) (x := x4_4) (fun (x4_4 : Int) => (.int .u8 x4_4, (mkH [⟨(y7_1).flatMap e3, 0, false⟩]))) (idxH (by kernel_rfl)) hx4_4 (by kernel_rfl) (opsD_run 2 (l' := (opsAt g43p18).toList.drop 7) (eE := E15) (H' := (mkH [⟨(y7_1).flatMap e3, 0, false⟩])) (hs := []) (by kernel_rfl) (opsD_env (eE := [(66, .bool true), (65, .bool true), (64, .int .u8 x4_4), (63, .str a0), (62, .int .u8 x4_2), (61, .int .i64 y7_0), (60, .str a0), (44, .bool false), (44, .bool (decide (x2_2 = 92))), (48, .bool (decide (x2_2 = 92))), (47, .int .u8 x2_2), (46, .int .i64 y7_0), (45, .str a0), (0, .str a0), (4, .own 0 (y7_1).length 1), (5, .int .i64 y7_0), (6, .int .i64 (fW .i64 ((a0.length : Int) - 1))), (7, .int .i64 x1_2.1), (8, .int .i64 x1_2.2)]) (congrArg (fun z : Bool => ([(66, .bool z), (65, .bool z), (64, .int .u8 x4_4), (63, .str a0), (62, .int .u8 x4_2), (61, .int .i64 y7_0), (60, .str a0), (44, .bool false), (44, .bool (decide (x2_2 = 92))), (48, .bool (decide (x2_2 = 92))), (47, .int .u8 x2_2), (46, .int .i64 y7_0), (45, .str a0), (0, .str a0), (4, .own 0 (y7_1).length 1), (5, .int .i64 y7_0), (6, .int .i64 (fW .i64 ((a0.length : Int) - 1))), (7, .int .i64 x1_2.1), (8, .int .i64 x1_2.2)] : Env)) hb8) (opsD_run 4 (l' := (opsAt g43p18).toList.drop 11) (eE := E16) (H' := (mkH [⟨(y7_1).flatMap e3, 0, false⟩])) (hs := []) (by kernel_rfl) (.nil)))))))) (by kernel_rfl) (by kernel_rfl) (by kernel_rfl) ?_
       refine oK [0, 4, 5, 6, 7, 8, 59] (eE := [(0, .str a0), (4, .own 0 (y7_1).length 1), (5, .int .i64 y7_0), (6, .int .i64 (fW .i64 ((a0.length : Int) - 1))), (7, .int .i64 x1_2.1), (8, .int .i64 x1_2.2), (59, .bool true)]) (by kernel_rfl) ?_
       exact hj9 (true, y7_0, y7_1)
      ·let E14 : Env := [(61, .int .i64 y7_0), (60, .str a0), (44, .bool false), (44, .bool (decide (x2_2 = 92))), (48, .bool (decide (x2_2 = 92))), (47, .int .u8 x2_2), (46, .int .i64 y7_0), (45, .str a0), (0, .str a0), (4, .own 0 (y7_1).length 1), (5, .int .i64 y7_0), (6, .int .i64 (fW .i64 ((a0.length : Int) - 1))), (7, .int .i64 x1_2.1), (8, .int .i64 x1_2.2)]
       let E15 : Env := ((66, .bool (decide (x4_2 = x4_4))) :: (65, .bool (decide (x4_2 = x4_4))) :: (64, .int .u8 x4_4) :: (63, .str a0) :: (62, .int .u8 x4_2) :: E14)
       let E17 : Env := [(59, .bool (decide (x1_2.1 < 32))), (69, .bool (decide (x1_2.1 < 32))), (68, .bool (decide (x1_2.1 < 32))), (67, .int .i64 x1_2.1), (66, .bool false), (65, .bool false), (64, .int .u8 x4_4), (63, .str a0), (62, .int .u8 x4_2), (61, .int .i64 y7_0), (60, .str a0), (44, .bool false), (44, .bool (decide (x2_2 = 92))), (48, .bool (decide (x2_2 = 92))), (47, .int .u8 x2_2), (46, .int .i64 y7_0), (45, .str a0), (0, .str a0), (4, .own 0 (y7_1).length 1), (5, .int .i64 y7_0), (6, .int .i64 (fW .i64 ((a0.length : Int) - 1))), (7, .int .i64 x1_2.1), (8, .int .i64 x1_2.2)]
       refine ok_draw (p' := nav [0] g43p18) (eE := E17) (H' := (mkH [⟨(y7_1).flatMap e3, 0, false⟩])) (hs := []) [(0, 0, 0), (0, 0, 0), (3, 0, 0), (0, 0, 0), (8, 0, 0), (31, 0, 0), (63, 0, 0), (127, 0, 0), (255, 0, 0), (511, 0, 0), (1023, 0, 0)] (by kernel_rfl) (by kernel_rfl) (by kernel_rfl) (opsD_run 2 (l' := (opsAt g43p18).toList.drop 2) (eE := E14) (H' := (mkH [⟨(y7_1).flatMap e3, 0, false⟩])) (hs := []) (by kernel_rfl) (opsD_chk (l' := (opsAt g43p18).toList.drop 3) (eE := ((62, .int .u8 x4_2) :: E14)) (hs := []) (x := x4_2) (fun (x4_2 : Int) => (.int .u8 x4_2, (mkH [⟨(y7_1).flatMap e3, 0, false⟩]))) (idxH (by kernel_rfl)) hx4_2 (by kernel_rfl) (opsD_run 1 (l' := (opsAt g43p18).toList.drop 4) (eE := ((63, .str a0) :: (62, .int .u8 x4_2) :: E14)) (H' := (mkH [⟨(y7_1).flatMap e3, 0, false⟩])) (hs := []) (by kernel_rfl) (opsD_chk (l' := (opsAt g43p18).toList.drop 5) (eE := ((64, .int .u8 x4_4) :: (63, .str a0) :: (62, .int .u8 x4_2) :: E14)) (hs := []) (x := x4_4) (fun (x4_4 : Int) => (.int .u8 x4_4, (mkH [⟨(y7_1).flatMap e3, 0, false⟩]))) (idxH (by kernel_rfl)) hx4_4 (by kernel_rfl) (opsD_run 2 (l' := (opsAt g43p18).toList.drop 7) (eE := E15) (H' := (mkH [⟨(y7_1).flatMap e3, 0, false⟩])) (hs := []) (by kernel_rfl) (opsD_env (eE := [(66, .bool false), (65, .bool false), (64, .int .u8 x4_4), (63, .str a0), (62, .int .u8 x4_2), (61, .int .i64 y7_0), (60, .str a0), (44, .bool false), (44, .bool (decide (x2_2 = 92))), (48, .bool (decide (x2_2 = 92))), (47, .int .u8 x2_2), (46, .int .i64 y7_0), (45, .str a0), (0, .str a0), (4, .own 0 (y7_1).length 1), (5, .int .i64 y7_0), (6, .int .i64 (fW .i64 ((a0.length : Int) - 1))), (7, .int .i64 x1_2.1), (8, .int .i64 x1_2.2)]) (congrArg (fun z : Bool => ([(66, .bool z), (65, .bool z), (64, .int .u8 x4_4), (63, .str a0), (62, .int .u8 x4_2), (61, .int .i64 y7_0), (60, .str a0), (44, .bool false), (44, .bool (decide (x2_2 = 92))), (48, .bool (decide (x2_2 = 92))), (47, .int .u8 x2_2), (46, .int .i64 y7_0), (45, .str a0), (0, .str a0), (4, .own 0 (y7_1).length 1), (5, .int .i64 y7_0), (6, .int .i64 (fW .i64 ((a0.length : Int) - 1))), (7, .int .i64 x1_2.1), (8, .int .i64 x1_2.2)] : Env)) hb8) (opsD_run 4 (l' := (opsAt g43p18).toList.drop 11) (eE := E17) (H' := (mkH [⟨(y7_1).flatMap e3, 0, false⟩])) (hs := []) (by kernel_rfl) (.nil)))))))) (by kernel_rfl) (by kernel_rfl) (by kernel_rfl) ?_
       refine oK [0, 4, 5, 6, 7, 8, 59] (eE := [(0, .str a0), (4, .own 0 (y7_1).length 1), (5, .int .i64 y7_0), (6, .int .i64 (fW .i64 ((a0.length : Int) - 1))), (7, .int .i64 x1_2.1), (8, .int .i64 x1_2.2), (59, .bool (decide (x1_2.1 < 32)))]) (by kernel_rfl) ?_
       exact hj9 (decide (x1_2.1 < 32), y7_0, y7_1)
  ·refine oR 9 (p' := g43p13) (eE := ((79, .bool (!decide (y7_0 = fW .i64 ((a0.length : Int) - 1)))) :: (78, .int .i64 (fW .i64 ((a0.length : Int) - 1))) :: (77, .int .i64 y7_0) :: (37, .bool false) :: E3)) (H' := (mkH [⟨(y7_1).flatMap e3, 0, false⟩])) (by kernel_rfl) ?_
   refine oK [4, 79] (eE := [(4, .own 0 (y7_1).length 1), (79, .bool (!decide (y7_0 = fW .i64 ((a0.length : Int) - 1))))]) (by kernel_rfl) ?_
   refine oS 79 (b := !decide (y7_0 = fW .i64 ((a0.length : Int) - 1))) (by kernel_rfl) (fun hb => ?_) (fun hb => ?_)
   ·let E18 : Env := [(3, .int .i64 8), (2, .nils), (79, .bool true), (4, .own 0 (y7_1).length 1), (79, .bool (!decide (y7_0 = fW .i64 ((a0.length : Int) - 1))))]
    refine oR 7 (p' := .fin) (eE := E18) (H' := (mkH [⟨(y7_1).flatMap e3, 0, false⟩])) (by kernel_rfl) ?_
    exact oT (r := (([] : List Int), (8 : Int))) (xs := [.nils, .int .i64 8]) (v := .tuple [.vec 0 1 [], .int .i64 8]) (by kernel_rfl) (by kernel_rfl) (by kernel_rfl) (.tuple (.nil (.pures (by kernel_rfl))) (.pures (by kernel_rfl))) (by kernel_rfl)
   ·let E19 : Env := [(3, .int .i64 0), (2, .own 0 (y7_1).length 1), (80, .own 0 (y7_1).length 1), (79, .bool false), (4, .own 0 (y7_1).length 1), (79, .bool (!decide (y7_0 = fW .i64 ((a0.length : Int) - 1))))]
    refine oR 9 (p' := .fin) (eE := E19) (H' := (mkH [⟨(y7_1).flatMap e3, 0, false⟩])) (by kernel_rfl) ?_
    exact oT (r := (y7_1, (0 : Int))) (xs := [.own 0 (y7_1).length 1, .int .i64 0]) (v := .tuple [.vec (y7_1).length 1 ((y7_1).flatMap e3), .int .i64 0]) (by kernel_rfl) (by kernel_rfl) (by kernel_rfl) (.tuple (fz_own e3_len e3_pur rfl rfl (.pures (by kernel_rfl))) (.pures (by kernel_rfl))) (by kernel_rfl)
def g43 (k : Nat) (a0 : (List Nat)) : Option ((List Int) × Int) :=
 jn (fun (z6 : Bool) => if z6 then (some (([] : List Int), (8 : Int))) else (g43_l7 k a0 k 1 ([] : List Int))) (fun j6 => if (decide ((a0.length : Int) < 2)) then (j6 true) else ((nthS a0 0).bind fun x0_5 => if (!decide (x0_5 = 34)) then ((nthS a0 0).bind fun x0_9 => if (!decide (x0_9 = 39)) then (j6 true) else ((nthS a0 (fW .i64 ((a0.length : Int) - 1))).bind fun x0_18 => (nthS a0 0).bind fun x0_20 => j6 (!decide (x0_18 = x0_20)))) else ((nthS a0 (fW .i64 ((a0.length : Int) - 1))).bind fun x0_18 => (nthS a0 0).bind fun x0_20 => j6 (!decide (x0_18 = x0_20)))))
theorem g43_ok (k : Nat) (a0 : (List Nat)) (r : ((List Int) × Int)) (h : g43 k a0 = some r) : PureOk Try.prog 43 [.str a0] (.tuple [.vec (r.1).length 1 ((r.1).flatMap e3), .int .i64 r.2]) := by
 refine pure_of X43 (fun _ => rfl) Try.func43 (by decide +kernel) (by kernel_rfl) (t := g43 k a0) ?_ h
 unfold g43
 refine oE (eE := [(0, .str a0)]) (by kernel_rfl) ?_
 refine oR 7 (p' := g43p1) (eE := [(3, .int .i64 0), (2, .nils), (0, .str a0)]) (H' := (mkH [])) (by kernel_rfl) ?_
 refine oJ (f := fun (z6 : Bool) => if z6 then (some (([] : List Int), (8 : Int))) else (g43_l7 k a0 k 1 ([] : List Int))) g43p2 (fun (z6 : Bool) => [(0, .str a0), (31, .bool z6)]) (fun (z6 : Bool) => (mkH [])) (fun z6 => ?_) (fun j6 hj6 => ?_)
 ·refine oS 31 (b := z6) (by kernel_rfl) (fun hb => ?_) (fun hb => ?_)
  ·let E1 : Env := [(3, .int .i64 8), (2, .nils), (31, .bool true), (0, .str a0), (31, .bool z6)]
   refine oR 7 (p' := .fin) (eE := E1) (H' := (mkH [])) (by kernel_rfl) ?_
   exact oT (r := (([] : List Int), (8 : Int))) (xs := [.nils, .int .i64 8]) (v := .tuple [.vec 0 1 [], .int .i64 8]) (by kernel_rfl) (by kernel_rfl) (by kernel_rfl) (.tuple (.nil (.pures (by kernel_rfl))) (.pures (by kernel_rfl))) (by kernel_rfl)
  ·refine oR 5 (p' := (atN 1 (ctl1 g43p4))) (eE := [(4, .nils), (31, .bool false), (0, .str a0), (31, .bool z6)]) (H' := (mkH [])) (by kernel_rfl) ?_
   refine ok_own [] 4 1 rfl (by kernel_rfl) ?_
   refine oE (eE := [(4, .own 0 (([] : List Int)).length 1), (4, .nils), (31, .bool false), (0, .str a0), (31, .bool z6)]) (by kernel_rfl) ?_
   refine ok_heap (H' := (mkH [⟨(([] : List Int)).flatMap e3, 0, false⟩])) (by kernel_rfl) ?_
   let E2 : Env := [(6, .int .i64 (fW .i64 ((a0.length : Int) - 1))), (5, .int .i64 1), (34, .int .i64 (fW .i64 ((a0.length : Int) - 1))), (33, .int .i64 (a0.length : Int)), (32, .str a0), (4, .own 0 (([] : List Int)).length 1), (4, .nils), (31, .bool false), (0, .str a0), (31, .bool z6)]
   refine oR 12 (p' := g43p7) (eE := E2) (H' := (mkH [⟨(([] : List Int)).flatMap e3, 0, false⟩])) (by kernel_rfl) ?_
   refine oK [0, 4, 5, 6] (eE := [(0, .str a0), (4, .own 0 (([] : List Int)).length 1), (5, .int .i64 1), (6, .int .i64 (fW .i64 ((a0.length : Int) - 1)))]) (by kernel_rfl) ?_
   exact (g43_l7_ok k a0 k) 1 ([] : List Int)
 ·refine ok_if (fun hb2 => ?_) (fun hb2 => ?_)
  ·let E20 : Env := [(12, .bool (decide ((a0.length : Int) < 2))), (11, .bool (decide ((a0.length : Int) < 2))), (10, .int .i64 (a0.length : Int)), (9, .str a0), (3, .int .i64 0), (2, .nils), (0, .str a0)]
   let E21 : Env := [(31, .bool true), (30, .tuple []), (29, .tuple []), (28, .tuple []), (27, .tuple []), (26, .tuple []), (25, .tuple []), (24, .tuple []), (23, .tuple []), (22, .bool true), (21, .bool true), (20, .tuple []), (19, .tuple []), (18, .tuple []), (17, .tuple []), (16, .tuple []), (15, .tuple []), (14, .tuple []), (13, .tuple []), (12, .bool true), (11, .bool true), (10, .int .i64 (a0.length : Int)), (9, .str a0), (3, .int .i64 0), (2, .nils), (0, .str a0)]
   refine ok_draw (p' := nav [0] g43p1) (eE := E21) (H' := (mkH [])) (hs := []) [(0, 0, 0), (1, 0, 0), (3, 0, 0), (7, 0, 0), (15, 0, 0), (31, 0, 0), (63, 0, 0), (127, 0, 0), (255, 0, 0), (511, 0, 0), (1023, 0, 0), (2047, 0, 0), (4095, 0, 0), (8191, 0, 0), (16383, 0, 0), (16383, 0, 0), (49151, 0, 0), (114687, 0, 0), (262143, 0, 0), (16383, 0, 0), (540671, 0, 0), (2097151, 0, 0), (4194303, 0, 0)] (by kernel_rfl) (by kernel_rfl) (by kernel_rfl) (opsD_run 4 (l' := (opsAt g43p1).toList.drop 4) (eE := E20) (H' := (mkH [])) (hs := []) (by kernel_rfl) (opsD_env (eE := [(12, .bool true), (11, .bool true), (10, .int .i64 (a0.length : Int)), (9, .str a0), (3, .int .i64 0), (2, .nils), (0, .str a0)]) (congrArg (fun z : Bool => ([(12, .bool z), (11, .bool z), (10, .int .i64 (a0.length : Int)), (9, .str a0), (3, .int .i64 0), (2, .nils), (0, .str a0)] : Env)) hb2) (opsD_run 19 (l' := (opsAt g43p1).toList.drop 23) (eE := E21) (H' := (mkH [])) (hs := []) (by kernel_rfl) (.nil)))) (by kernel_rfl) (by kernel_rfl) (by kernel_rfl) ?_
   refine oK [0, 31] (eE := [(0, .str a0), (31, .bool true)]) (by kernel_rfl) ?_
   exact hj6 true
  ·refine ok_bind (fun x0_5 hx0_5 => ?_)
   refine ok_if (fun hb3 => ?_) (fun hb3 => ?_)
   ·refine ok_bind (fun x0_9 hx0_9 => ?_)
    refine ok_if (fun hb4 => ?_) (fun hb4 => ?_)
    ·let E20 : Env := [(12, .bool (decide ((a0.length : Int) < 2))), (11, .bool (decide ((a0.length : Int) < 2))), (10, .int .i64 (a0.length : Int)), (9, .str a0), (3, .int .i64 0), (2, .nils), (0, .str a0)]
     let E22 : Env := [(13, .str a0), (12, .bool false), (11, .bool false), (10, .int .i64 (a0.length : Int)), (9, .str a0), (3, .int .i64 0), (2, .nils), (0, .str a0)]
     let E23 : Env := ((18, .int .u8 x0_9) :: (17, .str a0) :: (16, .bool true) :: (15, .bool true) :: (14, .int .u8 x0_5) :: E22)
     let E24 : Env := ((31, .bool true) :: (30, .tuple []) :: (29, .tuple []) :: (28, .tuple []) :: (27, .tuple []) :: (26, .tuple []) :: (25, .tuple []) :: (24, .tuple []) :: (23, .tuple []) :: (22, .bool true) :: (21, .bool true) :: (20, .bool true) :: (19, .bool true) :: E23)
     refine ok_draw (p' := nav [0] g43p1) (eE := E24) (H' := (mkH [])) (hs := []) [(0, 0, 0), (1, 0, 0), (3, 0, 0), (7, 0, 0), (15, 0, 0), (31, 0, 0), (63, 0, 0), (127, 0, 0), (255, 0, 0), (511, 0, 0), (1023, 0, 0), (2047, 0, 0), (4095, 0, 0), (8191, 0, 0), (16383, 0, 0), (16383, 0, 0), (49151, 0, 0), (114687, 0, 0), (262143, 0, 0), (16383, 0, 0), (540671, 0, 0), (2097151, 0, 0), (4194303, 0, 0)] (by kernel_rfl) (by kernel_rfl) (by kernel_rfl) (opsD_run 4 (l' := (opsAt g43p1).toList.drop 4) (eE := E20) (H' := (mkH [])) (hs := []) (by kernel_rfl) (opsD_env (eE := [(12, .bool false), (11, .bool false), (10, .int .i64 (a0.length : Int)), (9, .str a0), (3, .int .i64 0), (2, .nils), (0, .str a0)]) (congrArg (fun z : Bool => ([(12, .bool z), (11, .bool z), (10, .int .i64 (a0.length : Int)), (9, .str a0), (3, .int .i64 0), (2, .nils), (0, .str a0)] : Env)) hb2) (opsD_run 1 (l' := (opsAt g43p1).toList.drop 5) (eE := E22) (H' := (mkH [])) (hs := []) (by kernel_rfl) (opsD_chk (l' := (opsAt g43p1).toList.drop 6) (eE := ((14, .int .u8 x0_5) :: E22)) (hs := []) (x := x0_5) (fun (x0_5 : Int) => (.int .u8 x0_5, (mkH []))) (idxH (by kernel_rfl)) hx0_5 (by kernel_rfl) (opsD_run 2 (l' := (opsAt g43p1).toList.drop 8) (eE := ((16, .bool (!decide (x0_5 = 34))) :: (15, .bool (!decide (x0_5 = 34))) :: (14, .int .u8 x0_5) :: E22)) (H' := (mkH [])) (hs := []) (by kernel_rfl) (opsD_env (eE := ((16, .bool true) :: (15, .bool true) :: (14, .int .u8 x0_5) :: E22)) (congrArg (fun z : Bool => (((16, .bool z) :: (15, .bool z) :: (14, .int .u8 x0_5) :: E22) : Env)) hb3) (opsD_run 1 (l' := (opsAt g43p1).toList.drop 9) (eE := ((17, .str a0) :: (16, .bool true) :: (15, .bool true) :: (14, .int .u8 x0_5) :: E22)) (H' := (mkH [])) (hs := []) (by kernel_rfl) (opsD_chk (l' := (opsAt g43p1).toList.drop 10) (eE := E23) (hs := []) (x := x0_9) (fun (x0_9 : Int) => (.int .u8 x0_9, (mkH []))) (idxH (by kernel_rfl)) hx0_9 (by kernel_rfl) (opsD_run 4 (l' := (opsAt g43p1).toList.drop 14) (eE := ((22, .bool (!decide (x0_9 = 39))) :: (21, .bool (!decide (x0_9 = 39))) :: (20, .bool (!decide (x0_9 = 39))) :: (19, .bool (!decide (x0_9 = 39))) :: E23)) (H' := (mkH [])) (hs := []) (by kernel_rfl) (opsD_env (eE := ((22, .bool true) :: (21, .bool true) :: (20, .bool true) :: (19, .bool true) :: E23)) (congrArg (fun z : Bool => (((22, .bool z) :: (21, .bool z) :: (20, .bool z) :: (19, .bool z) :: E23) : Env)) hb4) (opsD_run 9 (l' := (opsAt g43p1).toList.drop 23) (eE := E24) (H' := (mkH [])) (hs := []) (by kernel_rfl) (.nil)))))))))))) (by kernel_rfl) (by kernel_rfl) (by kernel_rfl) ?_
     refine oK [0, 31] (eE := [(0, .str a0), (31, .bool true)]) (by kernel_rfl) ?_
     exact hj6 true
    ·refine ok_bind (fun x0_18 hx0_18 => ?_)
     refine ok_bind (fun x0_20 hx0_20 => ?_)
     let E20 : Env := [(12, .bool (decide ((a0.length : Int) < 2))), (11, .bool (decide ((a0.length : Int) < 2))), (10, .int .i64 (a0.length : Int)), (9, .str a0), (3, .int .i64 0), (2, .nils), (0, .str a0)]
     let E22 : Env := [(13, .str a0), (12, .bool false), (11, .bool false), (10, .int .i64 (a0.length : Int)), (9, .str a0), (3, .int .i64 0), (2, .nils), (0, .str a0)]
     let E23 : Env := ((18, .int .u8 x0_9) :: (17, .str a0) :: (16, .bool true) :: (15, .bool true) :: (14, .int .u8 x0_5) :: E22)
     let E25 : Env := ((26, .int .i64 (fW .i64 ((a0.length : Int) - 1))) :: (25, .int .i64 (a0.length : Int)) :: (24, .str a0) :: (23, .str a0) :: (22, .bool false) :: (21, .bool false) :: (20, .bool false) :: (19, .bool false) :: E23)
     let E26 : Env := ((31, .bool (!decide (x0_18 = x0_20))) :: (30, .bool (!decide (x0_18 = x0_20))) :: (29, .int .u8 x0_20) :: (28, .str a0) :: (27, .int .u8 x0_18) :: E25)
     refine ok_draw (p' := nav [0] g43p1) (eE := E26) (H' := (mkH [])) (hs := []) [(0, 0, 0), (1, 0, 0), (3, 0, 0), (7, 0, 0), (15, 0, 0), (31, 0, 0), (63, 0, 0), (127, 0, 0), (255, 0, 0), (511, 0, 0), (1023, 0, 0), (2047, 0, 0), (4095, 0, 0), (8191, 0, 0), (16383, 0, 0), (16383, 0, 0), (49151, 0, 0), (114687, 0, 0), (262143, 0, 0), (16383, 0, 0), (540671, 0, 0), (2097151, 0, 0), (4194303, 0, 0)] (by kernel_rfl) (by kernel_rfl) (by kernel_rfl) (opsD_run 4 (l' := (opsAt g43p1).toList.drop 4) (eE := E20) (H' := (mkH [])) (hs := []) (by kernel_rfl) (opsD_env (eE := [(12, .bool false), (11, .bool false), (10, .int .i64 (a0.length : Int)), (9, .str a0), (3, .int .i64 0), (2, .nils), (0, .str a0)]) (congrArg (fun z : Bool => ([(12, .bool z), (11, .bool z), (10, .int .i64 (a0.length : Int)), (9, .str a0), (3, .int .i64 0), (2, .nils), (0, .str a0)] : Env)) hb2) (opsD_run 1 (l' := (opsAt g43p1).toList.drop 5) (eE := E22) (H' := (mkH [])) (hs := []) (by kernel_rfl) (opsD_chk (l' := (opsAt g43p1).toList.drop 6) (eE := ((14, .int .u8 x0_5) :: E22)) (hs := []) (x := x0_5) (fun (x0_5 : Int) => (.int .u8 x0_5, (mkH []))) (idxH (by kernel_rfl)) hx0_5 (by kernel_rfl) (opsD_run 2 (l' := (opsAt g43p1).toList.drop 8) (eE := ((16, .bool (!decide (x0_5 = 34))) :: (15, .bool (!decide (x0_5 = 34))) :: (14, .int .u8 x0_5) :: E22)) (H' := (mkH [])) (hs := []) (by kernel_rfl) (opsD_env (eE := ((16, .bool true) :: (15, .bool true) :: (14, .int .u8 x0_5) :: E22)) (congrArg (fun z : Bool => (((16, .bool z) :: (15, .bool z) :: (14, .int .u8 x0_5) :: E22) : Env)) hb3) (opsD_run 1 (l' := (opsAt g43p1).toList.drop 9) (eE := ((17, .str a0) :: (16, .bool true) :: (15, .bool true) :: (14, .int .u8 x0_5) :: E22)) (H' := (mkH [])) (hs := []) (by kernel_rfl) (opsD_chk (l' := (opsAt g43p1).toList.drop 10) (eE := E23) (hs := []) (x := x0_9) (fun (x0_9 : Int) => (.int .u8 x0_9, (mkH []))) (idxH (by kernel_rfl)) hx0_9 (by kernel_rfl) (opsD_run 4 (l' := (opsAt g43p1).toList.drop 14) (eE := ((22, .bool (!decide (x0_9 = 39))) :: (21, .bool (!decide (x0_9 = 39))) :: (20, .bool (!decide (x0_9 = 39))) :: (19, .bool (!decide (x0_9 = 39))) :: E23)) (H' := (mkH [])) (hs := []) (by kernel_rfl) (opsD_env (eE := ((22, .bool false) :: (21, .bool false) :: (20, .bool false) :: (19, .bool false) :: E23)) (congrArg (fun z : Bool => (((22, .bool z) :: (21, .bool z) :: (20, .bool z) :: (19, .bool z) :: E23) : Env)) hb4) (opsD_run 4 (l' := (opsAt g43p1).toList.drop 18) (eE := E25) (H' := (mkH [])) (hs := []) (by kernel_rfl) (opsD_chk (l' := (opsAt g43p1).toList.drop 19) (eE := ((27, .int .u8 x0_18) :: E25)) (hs := []) (x := x0_18) (fun (x0_18 : Int) => (.int .u8 x0_18, (mkH []))) (idxH (by kernel_rfl)) hx0_18 (by kernel_rfl) (opsD_run 1 (l' := (opsAt g43p1).toList.drop 20) (eE := ((28, .str a0) :: (27, .int .u8 x0_18) :: E25)) (H' := (mkH [])) (hs := []) (by kernel_rfl) (opsD_chk (l' := (opsAt g43p1).toList.drop 21) (eE := ((29, .int .u8 x0_20) :: (28, .str a0) :: (27, .int .u8 x0_18) :: E25)) (hs := []) (x := x0_20) (fun (x0_20 : Int) => (.int .u8 x0_20, (mkH []))) (idxH (by kernel_rfl)) hx0_20 (by kernel_rfl) (opsD_run 2 (l' := (opsAt g43p1).toList.drop 23) (eE := E26) (H' := (mkH [])) (hs := []) (by kernel_rfl) (.nil)))))))))))))))) (by kernel_rfl) (by kernel_rfl) (by kernel_rfl) ?_
     refine oK [0, 31] (eE := [(0, .str a0), (31, .bool (!decide (x0_18 = x0_20)))]) (by kernel_rfl) ?_
     exact hj6 (!decide (x0_18 = x0_20))
   ·refine ok_bind (fun x0_18 hx0_18 => ?_)
    refine ok_bind (fun x0_20 hx0_20 => ?_)
    let E20 : Env := [(12, .bool (decide ((a0.length : Int) < 2))), (11, .bool (decide ((a0.length : Int) < 2))), (10, .int .i64 (a0.length : Int)), (9, .str a0), (3, .int .i64 0), (2, .nils), (0, .str a0)]
    let E22 : Env := [(13, .str a0), (12, .bool false), (11, .bool false), (10, .int .i64 (a0.length : Int)), (9, .str a0), (3, .int .i64 0), (2, .nils), (0, .str a0)]
    let E27 : Env := ((26, .int .i64 (fW .i64 ((a0.length : Int) - 1))) :: (25, .int .i64 (a0.length : Int)) :: (24, .str a0) :: (23, .str a0) :: (22, .bool false) :: (21, .bool false) :: (20, .bool false) :: (19, .tuple []) :: (18, .tuple []) :: (17, .tuple []) :: (16, .bool false) :: (15, .bool false) :: (14, .int .u8 x0_5) :: E22)
    let E28 : Env := ((31, .bool (!decide (x0_18 = x0_20))) :: (30, .bool (!decide (x0_18 = x0_20))) :: (29, .int .u8 x0_20) :: (28, .str a0) :: (27, .int .u8 x0_18) :: E27)
    refine ok_draw (p' := nav [0] g43p1) (eE := E28) (H' := (mkH [])) (hs := []) [(0, 0, 0), (1, 0, 0), (3, 0, 0), (7, 0, 0), (15, 0, 0), (31, 0, 0), (63, 0, 0), (127, 0, 0), (255, 0, 0), (511, 0, 0), (1023, 0, 0), (2047, 0, 0), (4095, 0, 0), (8191, 0, 0), (16383, 0, 0), (16383, 0, 0), (49151, 0, 0), (114687, 0, 0), (262143, 0, 0), (16383, 0, 0), (540671, 0, 0), (2097151, 0, 0), (4194303, 0, 0)] (by kernel_rfl) (by kernel_rfl) (by kernel_rfl) (opsD_run 4 (l' := (opsAt g43p1).toList.drop 4) (eE := E20) (H' := (mkH [])) (hs := []) (by kernel_rfl) (opsD_env (eE := [(12, .bool false), (11, .bool false), (10, .int .i64 (a0.length : Int)), (9, .str a0), (3, .int .i64 0), (2, .nils), (0, .str a0)]) (congrArg (fun z : Bool => ([(12, .bool z), (11, .bool z), (10, .int .i64 (a0.length : Int)), (9, .str a0), (3, .int .i64 0), (2, .nils), (0, .str a0)] : Env)) hb2) (opsD_run 1 (l' := (opsAt g43p1).toList.drop 5) (eE := E22) (H' := (mkH [])) (hs := []) (by kernel_rfl) (opsD_chk (l' := (opsAt g43p1).toList.drop 6) (eE := ((14, .int .u8 x0_5) :: E22)) (hs := []) (x := x0_5) (fun (x0_5 : Int) => (.int .u8 x0_5, (mkH []))) (idxH (by kernel_rfl)) hx0_5 (by kernel_rfl) (opsD_run 2 (l' := (opsAt g43p1).toList.drop 8) (eE := ((16, .bool (!decide (x0_5 = 34))) :: (15, .bool (!decide (x0_5 = 34))) :: (14, .int .u8 x0_5) :: E22)) (H' := (mkH [])) (hs := []) (by kernel_rfl) (opsD_env (eE := ((16, .bool false) :: (15, .bool false) :: (14, .int .u8 x0_5) :: E22)) (congrArg (fun z : Bool => (((16, .bool z) :: (15, .bool z) :: (14, .int .u8 x0_5) :: E22) : Env)) hb3) (opsD_run 10 (l' := (opsAt g43p1).toList.drop 18) (eE := E27) (H' := (mkH [])) (hs := []) (by kernel_rfl) (opsD_chk (l' := (opsAt g43p1).toList.drop 19) (eE := ((27, .int .u8 x0_18) :: E27)) (hs := []) (x := x0_18) (fun (x0_18 : Int) => (.int .u8 x0_18, (mkH []))) (idxH (by kernel_rfl)) hx0_18 (by kernel_rfl) (opsD_run 1 (l' := (opsAt g43p1).toList.drop 20) (eE := ((28, .str a0) :: (27, .int .u8 x0_18) :: E27)) (H' := (mkH [])) (hs := []) (by kernel_rfl) (opsD_chk (l' := (opsAt g43p1).toList.drop 21) (eE := ((29, .int .u8 x0_20) :: (28, .str a0) :: (27, .int .u8 x0_18) :: E27)) (hs := []) (x := x0_20) (fun (x0_20 : Int) => (.int .u8 x0_20, (mkH []))) (idxH (by kernel_rfl)) hx0_20 (by kernel_rfl) (opsD_run 2 (l' := (opsAt g43p1).toList.drop 23) (eE := E28) (H' := (mkH [])) (hs := []) (by kernel_rfl) (.nil)))))))))))) (by kernel_rfl) (by kernel_rfl) (by kernel_rfl) ?_
    refine oK [0, 31] (eE := [(0, .str a0), (31, .bool (!decide (x0_18 = x0_20)))]) (by kernel_rfl) ?_
    exact hj6 (!decide (x0_18 = x0_20))
end
end Go.Proofs.Ytabhkocokojddaa.Am
set_option maxRecDepth 100000
set_option linter.unusedVariables false
namespace Go.Proofs.Ytabhkocokojddaa.Am
noncomputable section
open Go
def X40 : Fx (Int × Int) := ⟨Try.prog, cx, Try.f40, fun r => .tuple [.int .i64 r.1, .int .i64 r.2], 0, fun _ => H0, cxTi, cxOrd⟩
def g40p0 : Pt := nav [0] (bodyAt Try.f40)
def g40p1 : Pt := nav [0, 0, 0, 0] g40p0
def g40p2 : Pt := nav [0, 0] g40p1
def g40p4 : Pt := nav [2, 0, 0, 0] g40p2
def g40p6 : Pt := nav [0, 0] g40p4
def g40p7 : Pt := nav [1, 0] g40p6
def g40p8 : Pt := nav [2, 0, 0] g40p6
def g40p9 : Pt := nav [0, 0, 0, 0] g40p7
def g40p10 : Pt := nav [0, 0, 0, 0] g40p8
def g40p11 : Pt := nav [0, 0] g40p9
def g40p12 : Pt := nav [0, 0] g40p10
def g40 (k : Nat) (a0 : (List Nat)) : Option (Int × Int) :=
 jn (fun (z4 : Bool) => if z4 then (some ((0 : Int), (8 : Int))) else ((nthS a0 1).bind fun x1_1 => if (decide (x1_1 = 92)) then ((g42 k a0 (1 : Int)).bind fun x2_1 => jn (fun (z5 : Bool) => if z5 then (some ((0 : Int), (8 : Int))) else (some (x2_1.1, (0 : Int)))) (fun j5 => if (decide (x2_1.1 < 0)) then (j5 true) else (j5 (!decide (fW .i64 (x2_1.2 + 1) = (a0.length : Int)))))) else ((g72 k a0 (1 : Int)).bind fun x3_1 => jn (fun (z6 : Bool) => if z6 then (some ((0 : Int), (8 : Int))) else (some (x3_1.1, (0 : Int)))) (fun j6 => if (decide (x3_1.1 ≤ 32)) then (j6 true) else (if (decide (x3_1.1 = 127)) then (j6 true) else (j6 (!decide (fW .i64 (x3_1.2 + 1) = (a0.length : Int))))))))) (fun j4 => if (decide ((a0.length : Int) < 2)) then (j4 true) else ((nthS a0 0).bind fun x0_5 => j4 (!decide (x0_5 = 36))))
theorem g40_ok (k : Nat) (a0 : (List Nat)) (r : (Int × Int)) (h : g40 k a0 = some r) : PureOk Try.prog 40 [.str a0] (.tuple [.int .i64 r.1, .int .i64 r.2]) := by
 refine pure_of X40 (fun _ => rfl) Try.func40 (by decide +kernel) (by kernel_rfl) (t := g40 k a0) ?_ h
 unfold g40
 refine oE (eE := [(0, .str a0)]) (by kernel_rfl) ?_
 let E1 : Env := [(11, .bool (decide ((a0.length : Int) < 2))), (10, .bool (decide ((a0.length : Int) < 2))), (9, .int .i64 (a0.length : Int)), (8, .str a0), (3, .int .i64 0), (2, .int .i64 0), (0, .str a0)]
 refine oR 12 (p' := (atN 4 (ctl1 g40p1))) (eE := E1) (H' := (mkH [])) (by kernel_rfl) ?_
 refine oJ (f := fun (z4 : Bool) => if z4 then (some ((0 : Int), (8 : Int))) else ((nthS a0 1).bind fun x1_1 => if (decide (x1_1 = 92)) then ((g42 k a0 (1 : Int)).bind fun x2_1 => jn (fun (z5 : Bool) => if z5 then (some ((0 : Int), (8 : Int))) else (some (x2_1.1, (0 : Int)))) (fun j5 => if (decide (x2_1.1 < 0)) then (j5 true) else (j5 (!decide (fW .i64 (x2_1.2 + 1) = (a0.length : Int)))))) else ((g72 k a0 (1 : Int)).bind fun x3_1 => jn (fun (z6 : Bool) => if z6 then (some ((0 : Int), (8 : Int))) else (some (x3_1.1, (0 : Int)))) (fun j6 => if (decide (x3_1.1 ≤ 32)) then (j6 true) else (if (decide (x3_1.1 = 127)) then (j6 true) else (j6 (!decide (fW .i64 (x3_1.2 + 1) = (a0.length : Int))))))))) g40p2 (fun (z4 : Bool) => [(0, .str a0), (15, .bool z4)]) (fun (z4 : Bool) => (mkH [])) (fun z4 => ?_) (fun j4 hj4 => ?_)
 ·refine oS 15 (b := z4) (by kernel_rfl) (fun hb => ?_) (fun hb => ?_)
  ·let E2 : Env := [(3, .int .i64 8), (2, .int .i64 0), (15, .bool true), (0, .str a0), (15, .bool z4)]
   refine oR 7 (p' := .fin) (eE := E2) (H' := (mkH [])) (by kernel_rfl) ?_
   exact oT (r := ((0 : Int), (8 : Int))) (xs := [.int .i64 0, .int .i64 8]) (v := .tuple [.int .i64 0, .int .i64 8]) (by kernel_rfl) (by kernel_rfl) (by kernel_rfl) (.pures (by kernel_rfl)) (by kernel_rfl)
  ·refine oR 6 (p' := (atN 1 (ctl1 g40p4))) (eE := [(16, .str a0), (15, .bool false), (0, .str a0), (15, .bool z4)]) (H' := (mkH [])) (by kernel_rfl) ?_
   refine oH (fun (x1_1 : Int) => (.int .u8 x1_1, (mkH []))) (atN 2 (ctl1 g40p4)) (fun x1_1 => [(17, .int .u8 x1_1), (16, .str a0), (15, .bool false), (0, .str a0), (15, .bool z4)]) (idxH (by kernel_rfl)) (fun _ => by kernel_rfl) (fun x1_1 hx1_1 => ?_)
   let E3 : Env := [(18, .bool (decide (x1_1 = 92))), (17, .int .u8 x1_1), (16, .str a0), (15, .bool false), (0, .str a0), (15, .bool z4)]
   refine oR 2 (p' := g40p6) (eE := E3) (H' := (mkH [])) (by kernel_rfl) ?_
   refine oS 18 (b := decide (x1_1 = 92)) (by kernel_rfl) (fun hb => ?_) (fun hb => ?_)
   ·refine oR 4 (p' := (atN 1 (ctl1 g40p7))) (eE := ((20, .str a0) :: (18, .bool true) :: E3)) (H' := (mkH [])) (by kernel_rfl) ?_
    refine oC (fun (x2_1 : (Int × Int)) => .tuple [.int .i64 x2_1.1, .int .i64 x2_1.2]) (atN 2 (ctl1 g40p7)) (fun x2_1 => ((21, .tuple [.int .i64 x2_1.1, .int .i64 x2_1.2]) :: (20, .str a0) :: (18, .bool true) :: E3)) (fi := 42) (args := [.str a0, .int .i64 1]) (by kernel_rfl) (by kernel_rfl) (fun _ => by kernel_rfl) (fun r h => g42_ok k a0 (1 : Int) r h) (fun _ => by kernel_rfl) (fun x2_1 hx2_1 => ?_)
    let E4 : Env := ((5, .int .i64 x2_1.2) :: (4, .int .i64 x2_1.1) :: (23, .int .i64 x2_1.2) :: (22, .int .i64 x2_1.1) :: (19, .tuple [.int .i64 x2_1.1, .int .i64 x2_1.2]) :: (21, .tuple [.int .i64 x2_1.1, .int .i64 x2_1.2]) :: (20, .str a0) :: (18, .bool true) :: E3)
    refine oR 8 (p' := g40p9) (eE := E4) (H' := (mkH [])) (by kernel_rfl) ?_
    refine oK [0, 4, 5] (eE := [(0, .str a0), (4, .int .i64 x2_1.1), (5, .int .i64 x2_1.2)]) (by kernel_rfl) ?_
    let E5 : Env := [(26, .bool (decide (x2_1.1 < 0))), (25, .bool (decide (x2_1.1 < 0))), (24, .int .i64 x2_1.1), (0, .str a0), (4, .int .i64 x2_1.1), (5, .int .i64 x2_1.2)]
    refine oR 4 (p' := (atN 3 (ctl1 g40p9))) (eE := E5) (H' := (mkH [])) (by kernel_rfl) ?_
    refine oJ (f := fun (z5 : Bool) => if z5 then (some ((0 : Int), (8 : Int))) else (some (x2_1.1, (0 : Int)))) g40p11 (fun (z5 : Bool) => [(4, .int .i64 x2_1.1), (32, .bool z5)]) (fun (z5 : Bool) => (mkH [])) (fun z5 => ?_) (fun j5 hj5 => ?_)
    ·refine oS 32 (b := z5) (by kernel_rfl) (fun hb => ?_) (fun hb => ?_)
     ·let E6 : Env := [(3, .int .i64 8), (2, .int .i64 0), (32, .bool true), (4, .int .i64 x2_1.1), (32, .bool z5)]
      refine oR 7 (p' := .fin) (eE := E6) (H' := (mkH [])) (by kernel_rfl) ?_
      exact oT (r := ((0 : Int), (8 : Int))) (xs := [.int .i64 0, .int .i64 8]) (v := .tuple [.int .i64 0, .int .i64 8]) (by kernel_rfl) (by kernel_rfl) (by kernel_rfl) (.pures (by kernel_rfl)) (by kernel_rfl)
     ·let E7 : Env := [(3, .int .i64 0), (2, .int .i64 x2_1.1), (33, .int .i64 x2_1.1), (32, .bool false), (4, .int .i64 x2_1.1), (32, .bool z5)]
      refine oR 9 (p' := .fin) (eE := E7) (H' := (mkH [])) (by kernel_rfl) ?_
      exact oT (r := (x2_1.1, (0 : Int))) (xs := [.int .i64 x2_1.1, .int .i64 0]) (v := .tuple [.int .i64 x2_1.1, .int .i64 0]) (by kernel_rfl) (by kernel_rfl) (by kernel_rfl) (.pures (by kernel_rfl)) (by kernel_rfl)
    ·refine oS 26 (b := decide (x2_1.1 < 0)) (by kernel_rfl) (fun hb => ?_) (fun hb => ?_)
     ·let E8 : Env := ((32, .bool true) :: (31, .tuple []) :: (30, .tuple []) :: (29, .tuple []) :: (28, .tuple []) :: (27, .tuple []) :: (26, .bool true) :: E5)
      refine oR 7 (p' := g40p11) (eE := E8) (H' := (mkH [])) (by kernel_rfl) ?_
      refine oK [4, 32] (eE := [(4, .int .i64 x2_1.1), (32, .bool true)]) (by kernel_rfl) ?_
      exact hj5 true
     ·let E9 : Env := ((32, .bool (!decide (fW .i64 (x2_1.2 + 1) = (a0.length : Int)))) :: (31, .bool (!decide (fW .i64 (x2_1.2 + 1) = (a0.length : Int)))) :: (30, .int .i64 (a0.length : Int)) :: (29, .str a0) :: (28, .int .i64 (fW .i64 (x2_1.2 + 1))) :: (27, .int .i64 x2_1.2) :: (26, .bool false) :: E5)
      refine oR 7 (p' := g40p11) (eE := E9) (H' := (mkH [])) (by kernel_rfl) ?_
      refine oK [4, 32] (eE := [(4, .int .i64 x2_1.1), (32, .bool (!decide (fW .i64 (x2_1.2 + 1) = (a0.length : Int))))]) (by kernel_rfl) ?_
      exact hj5 (!decide (fW .i64 (x2_1.2 + 1) = (a0.length : Int)))
   ·refine oR 5 (p' := (atN 1 (ctl1 g40p8))) (eE := ((35, .str a0) :: (18, .bool false) :: E3)) (H' := (mkH [])) (by kernel_rfl) ?_
    refine oC (fun (x3_1 : (Int × Int)) => .tuple [.int .i64 x3_1.1, .int .i64 x3_1.2]) (atN 2 (ctl1 g40p8)) (fun x3_1 => ((36, .tuple [.int .i64 x3_1.1, .int .i64 x3_1.2]) :: (35, .str a0) :: (18, .bool false) :: E3)) (fi := 72) (args := [.str a0, .int .i64 1]) (by kernel_rfl) (by kernel_rfl) (fun _ => by kernel_rfl) (fun r h => g72_ok k a0 (1 : Int) r h) (fun _ => by kernel_rfl) (fun x3_1 hx3_1 => ?_)
    let E10 : Env := ((7, .int .i64 x3_1.2) :: (6, .int .i64 x3_1.1) :: (38, .int .i64 x3_1.2) :: (37, .int .i64 x3_1.1) :: (34, .tuple [.int .i64 x3_1.1, .int .i64 x3_1.2]) :: (36, .tuple [.int .i64 x3_1.1, .int .i64 x3_1.2]) :: (35, .str a0) :: (18, .bool false) :: E3)
    refine oR 8 (p' := g40p10) (eE := E10) (H' := (mkH [])) (by kernel_rfl) ?_
    refine oK [0, 6, 7] (eE := [(0, .str a0), (6, .int .i64 x3_1.1), (7, .int .i64 x3_1.2)]) (by kernel_rfl) ?_
    let E11 : Env := [(41, .bool (decide (x3_1.1 ≤ 32))), (40, .bool (decide (x3_1.1 ≤ 32))), (39, .int .i64 x3_1.1), (0, .str a0), (6, .int .i64 x3_1.1), (7, .int .i64 x3_1.2)]
    refine oR 4 (p' := (atN 3 (ctl1 g40p10))) (eE := E11) (H' := (mkH [])) (by kernel_rfl) ?_
    refine oJ (f := fun (z6 : Bool) => if z6 then (some ((0 : Int), (8 : Int))) else (some (x3_1.1, (0 : Int)))) g40p12 (fun (z6 : Bool) => [(6, .int .i64 x3_1.1), (51, .bool z6)]) (fun (z6 : Bool) => (mkH [])) (fun z6 => ?_) (fun j6 hj6 => ?_)
    ·refine oS 51 (b := z6) (by kernel_rfl) (fun hb => ?_) (fun hb => ?_)
     ·let E12 : Env := [(3, .int .i64 8), (2, .int .i64 0), (51, .bool true), (6, .int .i64 x3_1.1), (51, .bool z6)]
      refine oR 7 (p' := .fin) (eE := E12) (H' := (mkH [])) (by kernel_rfl) ?_
      exact oT (r := ((0 : Int), (8 : Int))) (xs := [.int .i64 0, .int .i64 8]) (v := .tuple [.int .i64 0, .int .i64 8]) (by kernel_rfl) (by kernel_rfl) (by kernel_rfl) (.pures (by kernel_rfl)) (by kernel_rfl)
     ·let E13 : Env := [(3, .int .i64 0), (2, .int .i64 x3_1.1), (52, .int .i64 x3_1.1), (51, .bool false), (6, .int .i64 x3_1.1), (51, .bool z6)]
      refine oR 9 (p' := .fin) (eE := E13) (H' := (mkH [])) (by kernel_rfl) ?_
      exact oT (r := (x3_1.1, (0 : Int))) (xs := [.int .i64 x3_1.1, .int .i64 0]) (v := .tuple [.int .i64 x3_1.1, .int .i64 0]) (by kernel_rfl) (by kernel_rfl) (by kernel_rfl) (.pures (by kernel_rfl)) (by kernel_rfl)
    ·refine oS 41 (b := decide (x3_1.1 ≤ 32)) (by kernel_rfl) (fun hb => ?_) (fun hb => ?_)
     ·let E14 : Env := ((51, .bool true) :: (50, .tuple []) :: (49, .tuple []) :: (48, .tuple []) :: (47, .tuple []) :: (46, .tuple []) :: (45, .bool true) :: (44, .bool true) :: (43, .tuple []) :: (42, .tuple []) :: (41, .bool true) :: E11)
      refine oR 11 (p' := g40p12) (eE := E14) (H' := (mkH [])) (by kernel_rfl) ?_
      refine oK [6, 51] (eE := [(6, .int .i64 x3_1.1), (51, .bool true)]) (by kernel_rfl) ?_
      exact hj6 true
     ·let E15 : Env := ((45, .bool (decide (x3_1.1 = 127))) :: (44, .bool (decide (x3_1.1 = 127))) :: (43, .bool (decide (x3_1.1 = 127))) :: (42, .int .i64 x3_1.1) :: (41, .bool false) :: E11)
      refine oR 4 (p' := (atN 7 (ctl1 g40p10))) (eE := E15) (H' := (mkH [])) (by kernel_rfl) ?_
      refine oS 45 (b := decide (x3_1.1 = 127)) (by kernel_rfl) (fun hb => ?_) (fun hb => ?_)
      ·let E16 : Env := ((51, .bool true) :: (50, .tuple []) :: (49, .tuple []) :: (48, .tuple []) :: (47, .tuple []) :: (46, .tuple []) :: (45, .bool true) :: E15)
       refine oR 7 (p' := g40p12) (eE := E16) (H' := (mkH [])) (by kernel_rfl) ?_
       refine oK [6, 51] (eE := [(6, .int .i64 x3_1.1), (51, .bool true)]) (by kernel_rfl) ?_
       exact hj6 true
      ·let E17 : Env := ((51, .bool (!decide (fW .i64 (x3_1.2 + 1) = (a0.length : Int)))) :: (50, .bool (!decide (fW .i64 (x3_1.2 + 1) = (a0.length : Int)))) :: (49, .int .i64 (a0.length : Int)) :: (48, .str a0) :: (47, .int .i64 (fW .i64 (x3_1.2 + 1))) :: (46, .int .i64 x3_1.2) :: (45, .bool false) :: E15)
       refine oR 7 (p' := g40p12) (eE := E17) (H' := (mkH [])) (by kernel_rfl) ?_
       refine oK [6, 51] (eE := [(6, .int .i64 x3_1.1), (51, .bool (!decide (fW .i64 (x3_1.2 + 1) = (a0.length : Int))))]) (by kernel_rfl) ?_
       exact hj6 (!decide (fW .i64 (x3_1.2 + 1) = (a0.length : Int)))
 ·refine oS 11 (b := decide ((a0.length : Int) < 2)) (by kernel_rfl) (fun hb => ?_) (fun hb => ?_)
  ·let E18 : Env := ((15, .bool true) :: (14, .tuple []) :: (13, .tuple []) :: (12, .tuple []) :: (11, .bool true) :: E1)
   refine oR 5 (p' := g40p2) (eE := E18) (H' := (mkH [])) (by kernel_rfl) ?_
   refine oK [0, 15] (eE := [(0, .str a0), (15, .bool true)]) (by kernel_rfl) ?_
   exact hj4 true
  ·refine oR 1 (p' := (atN 5 (ctl1 g40p1))) (eE := ((12, .str a0) :: (11, .bool false) :: E1)) (H' := (mkH [])) (by kernel_rfl) ?_
   refine oH (fun (x0_5 : Int) => (.int .u8 x0_5, (mkH []))) (atN 6 (ctl1 g40p1)) (fun x0_5 => ((13, .int .u8 x0_5) :: (12, .str a0) :: (11, .bool false) :: E1)) (idxH (by kernel_rfl)) (fun _ => by kernel_rfl) (fun x0_5 hx0_5 => ?_)
   let E19 : Env := ((15, .bool (!decide (x0_5 = 36))) :: (14, .bool (!decide (x0_5 = 36))) :: (13, .int .u8 x0_5) :: (12, .str a0) :: (11, .bool false) :: E1)
   refine oR 3 (p' := g40p2) (eE := E19) (H' := (mkH [])) (by kernel_rfl) ?_
   refine oK [0, 15] (eE := [(0, .str a0), (15, .bool (!decide (x0_5 = 36)))]) (by kernel_rfl) ?_
   exact hj4 (!decide (x0_5 = 36))
end
end Go.Proofs.Ytabhkocokojddaa.Am
set_option maxRecDepth 100000
set_option linter.unusedVariables false
namespace Go.Proofs.Ytabhkocokojddaa.Am
noncomputable section
open Go
def X44 : Fx ((List Int) × Int) := ⟨Try.prog, cx, Try.f44, fun r => .tuple [.vec (r.1).length 1 ((r.1).flatMap e3), .int .i64 r.2], 0, fun _ => H0, cxTi, cxOrd⟩
def g44p0 : Pt := nav [0] (bodyAt Try.f44)
def g44p1 : Pt := nav [0, 0, 0, 0] g44p0
def g44p2 : Pt := nav [0] g44p1
def g44p4 : Pt := nav [2, 0, 0] g44p2
def g44p6 : Pt := nav [0, 0, 0] g44p4
def g44p7 : Pt := nav [0, 0, 0, 0, 0] g44p6
def g44p8 : Pt := nav [0, 0, 0] g44p7
def g44p9 : Pt := nav [0, 0] g44p8
def g44p10 : Pt := nav [1, 0, 0, 0] g44p9
def g44p12 : Pt := nav [0, 0, 0, 0] g44p10
def g44p13 : Pt := nav [0, 0] g44p12
def g44p14 : Pt := nav [1] g44p13
def g44p15 : Pt := nav [2, 0] g44p13
def g44p16 : Pt := nav [0, 0, 0, 0] g44p14
def g44p17 : Pt := nav [0, 0] g44p15
def g44p18 : Pt := nav [0, 0] g44p16
def g44p21 : Pt := nav [2, 0, 0] g44p18
def g44p22 : Pt := nav [0, 0] g44p21
def g44_l6 (k : Nat)  (a0 : (List Nat)) (n : Nat) : Int → (List Int) → Option ((List Int) × Int) :=
 Nat.rec (motive := fun _ => Int → (List Int) → Option ((List Int) × Int)) (fun _ _ => none) (fun _ ih => fun (y6_0 : Int) (y6_1 : (List Int)) => if (decide (y6_0 < fW .i64 ((a0.length : Int) - 1))) then ((g72 k a0 y6_0).bind fun x1_2 => jn (fun (z7 : Int × Int × Int × (List Int)) => if (decide (z7.1 < 0)) then (some (([] : List Int), (8 : Int))) else ((appS 8 z7.2.2.2 ([z7.1] : List Int)).bind fun x4_3 => ih (fW .i64 (z7.2.2.1 + z7.2.1)) x4_3)) (fun j7 => if (decide (x1_2.1 = 92)) then ((subL a0 none (some (fW .i64 ((a0.length : Int) - 1)))).bind fun x2_4 => (g42 k x2_4 y6_0).bind fun x2_6 => j7 (x2_6.1, x2_6.2, y6_0, y6_1)) else ((nthS a0 0).bind fun x3_2 => jn (fun (z8 : Bool × Int × (List Int)) => if z8.1 then (j7 ((-1), x1_2.2, z8.2.1, z8.2.2)) else (j7 (x1_2.1, x1_2.2, z8.2.1, z8.2.2))) (fun j8 => if (decide (x1_2.1 = fW .i64 x3_2)) then (j8 (true, y6_0, y6_1)) else (j8 (decide (x1_2.1 < 32), y6_0, y6_1)))))) else (some (y6_1, (0 : Int)))) n
theorem g44_l6_s (k : Nat)  (a0 : (List Nat)) (n : Nat) (y6_0 : Int) (y6_1 : (List Int)) : g44_l6 k a0 (n + 1) y6_0 y6_1 = (if (decide (y6_0 < fW .i64 ((a0.length : Int) - 1))) then ((g72 k a0 y6_0).bind fun x1_2 => jn (fun (z7 : Int × Int × Int × (List Int)) => if (decide (z7.1 < 0)) then (some (([] : List Int), (8 : Int))) else ((appS 8 z7.2.2.2 ([z7.1] : List Int)).bind fun x4_3 => (g44_l6 k a0 n) (fW .i64 (z7.2.2.1 + z7.2.1)) x4_3)) (fun j7 => if (decide (x1_2.1 = 92)) then ((subL a0 none (some (fW .i64 ((a0.length : Int) - 1)))).bind fun x2_4 => (g42 k x2_4 y6_0).bind fun x2_6 => j7 (x2_6.1, x2_6.2, y6_0, y6_1)) else ((nthS a0 0).bind fun x3_2 => jn (fun (z8 : Bool × Int × (List Int)) => if z8.1 then (j7 ((-1), x1_2.2, z8.2.1, z8.2.2)) else (j7 (x1_2.1, x1_2.2, z8.2.1, z8.2.2))) (fun j8 => if (decide (x1_2.1 = fW .i64 x3_2)) then (j8 (true, y6_0, y6_1)) else (j8 (decide (x1_2.1 < 32), y6_0, y6_1)))))) else (some (y6_1, (0 : Int)))) := rfl
theorem g44_l6_ok (k : Nat)  (a0 : (List Nat))  : ∀ (n : Nat) (y6_0 : Int) (y6_1 : (List Int)), Ok X44 g44p7 [(0, .str a0), (4, .own 0 (y6_1).length 1), (5, .int .i64 y6_0)] (mkH [⟨(y6_1).flatMap e3, 0, false⟩]) (g44_l6 k a0 n y6_0 y6_1)
 | 0, _, _ => ok_none
 | n + 1, y6_0, y6_1 => by
  have ih := g44_l6_ok k a0 n
  rw [g44_l6_s]
  refine ok_ent (p' := nav [0] g44p7) (by kernel_rfl) ?_
  let E3 : Env := [(35, .bool (decide (y6_0 < fW .i64 ((a0.length : Int) - 1)))), (34, .int .i64 (fW .i64 ((a0.length : Int) - 1))), (33, .int .i64 (a0.length : Int)), (32, .str a0), (31, .int .i64 y6_0), (0, .str a0), (4, .own 0 (y6_1).length 1), (5, .int .i64 y6_0)]
  refine oR 9 (p' := g44p9) (eE := E3) (H' := (mkH [⟨(y6_1).flatMap e3, 0, false⟩])) (by kernel_rfl) ?_
  refine oS 35 (b := decide (y6_0 < fW .i64 ((a0.length : Int) - 1))) (by kernel_rfl) (fun hb => ?_) (fun hb => ?_)
  ·refine oR 7 (p' := (atN 2 (ctl1 g44p10))) (eE := ((38, .int .i64 y6_0) :: (37, .str a0) :: (35, .bool true) :: E3)) (H' := (mkH [⟨(y6_1).flatMap e3, 0, false⟩])) (by kernel_rfl) ?_
   refine oC (fun (x1_2 : (Int × Int)) => .tuple [.int .i64 x1_2.1, .int .i64 x1_2.2]) (atN 3 (ctl1 g44p10)) (fun x1_2 => ((39, .tuple [.int .i64 x1_2.1, .int .i64 x1_2.2]) :: (38, .int .i64 y6_0) :: (37, .str a0) :: (35, .bool true) :: E3)) (fi := 72) (args := [.str a0, .int .i64 y6_0]) (by kernel_rfl) (by kernel_rfl) (fun _ => by kernel_rfl) (fun r h => g72_ok k a0 y6_0 r h) (fun _ => by kernel_rfl) (fun x1_2 hx1_2 => ?_)
   let E4 : Env := ((7, .int .i64 x1_2.2) :: (6, .int .i64 x1_2.1) :: (41, .int .i64 x1_2.2) :: (40, .int .i64 x1_2.1) :: (36, .tuple [.int .i64 x1_2.1, .int .i64 x1_2.2]) :: (39, .tuple [.int .i64 x1_2.1, .int .i64 x1_2.2]) :: (38, .int .i64 y6_0) :: (37, .str a0) :: (35, .bool true) :: E3)
   refine oR 8 (p' := g44p12) (eE := E4) (H' := (mkH [⟨(y6_1).flatMap e3, 0, false⟩])) (by kernel_rfl) ?_
   refine oK [0, 4, 5, 6, 7] (eE := [(0, .str a0), (4, .own 0 (y6_1).length 1), (5, .int .i64 y6_0), (6, .int .i64 x1_2.1), (7, .int .i64 x1_2.2)]) (by kernel_rfl) ?_
   let E5 : Env := [(43, .bool (decide (x1_2.1 = 92))), (42, .int .i64 x1_2.1), (0, .str a0), (4, .own 0 (y6_1).length 1), (5, .int .i64 y6_0), (6, .int .i64 x1_2.1), (7, .int .i64 x1_2.2)]
   refine oR 4 (p' := g44p13) (eE := E5) (H' := (mkH [⟨(y6_1).flatMap e3, 0, false⟩])) (by kernel_rfl) ?_
   refine oJ (f := fun (z7 : Int × Int × Int × (List Int)) => if (decide (z7.1 < 0)) then (some (([] : List Int), (8 : Int))) else ((appS 8 z7.2.2.2 ([z7.1] : List Int)).bind fun x4_3 => (g44_l6 k a0 n) (fW .i64 (z7.2.2.1 + z7.2.1)) x4_3)) g44p16 (fun (z7 : Int × Int × Int × (List Int)) => [(0, .str a0), (4, .own 0 (z7.2.2.2).length 1), (5, .int .i64 z7.2.2.1), (6, .int .i64 z7.1), (7, .int .i64 z7.2.1)]) (fun (z7 : Int × Int × Int × (List Int)) => (mkH [⟨(z7.2.2.2).flatMap e3, 0, false⟩])) (fun z7 => ?_) (fun j7 hj7 => ?_)
   ·let E6 : Env := [(64, .bool (decide (z7.1 < 0))), (63, .int .i64 z7.1), (0, .str a0), (4, .own 0 (z7.2.2.2).length 1), (5, .int .i64 z7.2.2.1), (6, .int .i64 z7.1), (7, .int .i64 z7.2.1)]
    refine oR 4 (p' := g44p18) (eE := E6) (H' := (mkH [⟨(z7.2.2.2).flatMap e3, 0, false⟩])) (by kernel_rfl) ?_
    refine oS 64 (b := decide (z7.1 < 0)) (by kernel_rfl) (fun hb => ?_) (fun hb => ?_)
    ·refine oR 7 (p' := .fin) (eE := ((3, .int .i64 8) :: (2, .nils) :: (64, .bool true) :: E6)) (H' := (mkH [⟨(z7.2.2.2).flatMap e3, 0, false⟩])) (by kernel_rfl) ?_
     exact oT (r := (([] : List Int), (8 : Int))) (xs := [.nils, .int .i64 8]) (v := .tuple [.vec 0 1 [], .int .i64 8]) (by kernel_rfl) (by kernel_rfl) (by kernel_rfl) (.tuple (.nil (.pures (by kernel_rfl))) (.pures (by kernel_rfl))) (by kernel_rfl)
    ·refine oR 7 (p' := (atN 3 (ctl1 g44p21))) (eE := ((67, .slice 1 1 0 1 1) :: (66, .int .i64 z7.1) :: (65, .own 0 (z7.2.2.2).length 1) :: (64, .bool false) :: E6)) (H' := (mkH [⟨(z7.2.2.2).flatMap e3, 0, false⟩, ⟨[.int .i64 z7.1], 0, false⟩])) (by kernel_rfl) ?_
     refine oH (fun (x4_3 : (List Int)) => (.own 0 (x4_3).length 1, (mkH [⟨(x4_3).flatMap e3, 0, false⟩, ⟨[.int .i64 z7.1], 0, false⟩]))) (atN 4 (ctl1 g44p21)) (fun x4_3 => ((68, .own 0 (x4_3).length 1) :: (67, .slice 1 1 0 1 1) :: (66, .int .i64 z7.1) :: (65, .own 0 (z7.2.2.2).length 1) :: (64, .bool false) :: E6)) (appH (sz := 1) e3_len rfl e3_one [⟨(z7.2.2.2).flatMap e3, 0, false⟩, ⟨[.int .i64 z7.1], 0, false⟩] 0 8 z7.2.2.2 ([z7.1] : List Int) rfl rfl (by kernel_rfl)) (fun _ => by kernel_rfl) (fun x4_3 hx4_3 => ?_)
     let E7 : Env := ((4, .own 0 (x4_3).length 1) :: (68, .own 0 (x4_3).length 1) :: (67, .slice 1 1 0 1 1) :: (66, .int .i64 z7.1) :: (65, .own 0 (z7.2.2.2).length 1) :: (64, .bool false) :: E6)
     refine oR 2 (p' := g44p22) (eE := E7) (H' := (mkH [⟨(x4_3).flatMap e3, 0, false⟩, ⟨[.int .i64 z7.1], 0, false⟩])) (by kernel_rfl) ?_
     refine oK [0, 4, 5, 7] (eE := [(0, .str a0), (4, .own 0 (x4_3).length 1), (5, .int .i64 z7.2.2.1), (7, .int .i64 z7.2.1)]) (by kernel_rfl) ?_
     let E8 : Env := [(5, .int .i64 (fW .i64 (z7.2.2.1 + z7.2.1))), (71, .int .i64 (fW .i64 (z7.2.2.1 + z7.2.1))), (70, .int .i64 z7.2.1), (69, .int .i64 z7.2.2.1), (0, .str a0), (4, .own 0 (x4_3).length 1), (5, .int .i64 z7.2.2.1), (7, .int .i64 z7.2.1)]
     refine oR 6 (p' := g44p7) (eE := E8) (H' := (mkH [⟨(x4_3).flatMap e3, 0, false⟩, ⟨[.int .i64 z7.1], 0, false⟩])) (by kernel_rfl) ?_
     refine oK [0, 4, 5] (eE := [(0, .str a0), (4, .own 0 (x4_3).length 1), (5, .int .i64 (fW .i64 (z7.2.2.1 + z7.2.1)))]) (by kernel_rfl) ?_
     refine ok_cut [⟨(x4_3).flatMap e3, 0, false⟩] [⟨[.int .i64 z7.1], 0, false⟩] (by kernel_rfl) rfl (by kernel_rfl) ⟨(purs_belows _ (purs_flatMap e3_pur _)), trivial⟩ ?_
     exact ih (fW .i64 (z7.2.2.1 + z7.2.1)) x4_3
   ·refine oS 43 (b := decide (x1_2.1 = 92)) (by kernel_rfl) (fun hb => ?_) (fun hb => ?_)
    ·let E9 : Env := ((48, .int .i64 (fW .i64 ((a0.length : Int) - 1))) :: (47, .int .i64 (a0.length : Int)) :: (46, .str a0) :: (45, .str a0) :: (43, .bool true) :: E5)
     refine oR 6 (p' := (atN 4 (ctl1 g44p14))) (eE := E9) (H' := (mkH [⟨(y6_1).flatMap e3, 0, false⟩])) (by kernel_rfl) ?_
     refine oH (fun (x2_4 : (List Nat)) => (.str x2_4, (mkH [⟨(y6_1).flatMap e3, 0, false⟩]))) (atN 5 (ctl1 g44p14)) (fun x2_4 => ((49, .str x2_4) :: E9)) (subH none (some (fW .i64 ((a0.length : Int) - 1))) (by kernel_rfl)) (fun _ => by kernel_rfl) (fun x2_4 hx2_4 => ?_)
     refine oR 1 (p' := (atN 6 (ctl1 g44p14))) (eE := ((50, .int .i64 y6_0) :: (49, .str x2_4) :: E9)) (H' := (mkH [⟨(y6_1).flatMap e3, 0, false⟩])) (by kernel_rfl) ?_
     refine oC (fun (x2_6 : (Int × Int)) => .tuple [.int .i64 x2_6.1, .int .i64 x2_6.2]) (atN 7 (ctl1 g44p14)) (fun x2_6 => ((51, .tuple [.int .i64 x2_6.1, .int .i64 x2_6.2]) :: (50, .int .i64 y6_0) :: (49, .str x2_4) :: E9)) (fi := 42) (args := [.str x2_4, .int .i64 y6_0]) (by kernel_rfl) (by kernel_rfl) (fun _ => by kernel_rfl) (fun r h => g42_ok k x2_4 y6_0 r h) (fun _ => by kernel_rfl) (fun x2_6 hx2_6 => ?_)
     let E10 : Env := ((7, .int .i64 x2_6.2) :: (6, .int .i64 x2_6.1) :: (53, .int .i64 x2_6.2) :: (52, .int .i64 x2_6.1) :: (44, .tuple [.int .i64 x2_6.1, .int .i64 x2_6.2]) :: (51, .tuple [.int .i64 x2_6.1, .int .i64 x2_6.2]) :: (50, .int .i64 y6_0) :: (49, .str x2_4) :: E9)
     refine oR 8 (p' := g44p16) (eE := E10) (H' := (mkH [⟨(y6_1).flatMap e3, 0, false⟩])) (by kernel_rfl) ?_
     refine oK [0, 4, 5, 6, 7] (eE := [(0, .str a0), (4, .own 0 (y6_1).length 1), (5, .int .i64 y6_0), (6, .int .i64 x2_6.1), (7, .int .i64 x2_6.2)]) (by kernel_rfl) ?_
     exact hj7 (x2_6.1, x2_6.2, y6_0, y6_1)
    ·refine oR 5 (p' := (atN 2 (ctl1 g44p15))) (eE := ((55, .str a0) :: (54, .int .i64 x1_2.1) :: (43, .bool false) :: E5)) (H' := (mkH [⟨(y6_1).flatMap e3, 0, false⟩])) (by kernel_rfl) ?_
     refine oH (fun (x3_2 : Int) => (.int .u8 x3_2, (mkH [⟨(y6_1).flatMap e3, 0, false⟩]))) (atN 3 (ctl1 g44p15)) (fun x3_2 => ((56, .int .u8 x3_2) :: (55, .str a0) :: (54, .int .i64 x1_2.1) :: (43, .bool false) :: E5)) (idxH (by kernel_rfl)) (fun _ => by kernel_rfl) (fun x3_2 hx3_2 => ?_)
     let E11 : Env := ((59, .bool (decide (x1_2.1 = fW .i64 x3_2))) :: (58, .bool (decide (x1_2.1 = fW .i64 x3_2))) :: (57, .int .i64 (fW .i64 x3_2)) :: (56, .int .u8 x3_2) :: (55, .str a0) :: (54, .int .i64 x1_2.1) :: (43, .bool false) :: E5)
     refine oR 3 (p' := (atN 6 (ctl1 g44p15))) (eE := E11) (H' := (mkH [⟨(y6_1).flatMap e3, 0, false⟩])) (by kernel_rfl) ?_
     refine oJ (f := fun (z8 : Bool × Int × (List Int)) => if z8.1 then (j7 ((-1), x1_2.2, z8.2.1, z8.2.2)) else (j7 (x1_2.1, x1_2.2, z8.2.1, z8.2.2))) g44p17 (fun (z8 : Bool × Int × (List Int)) => [(0, .str a0), (4, .own 0 (z8.2.2).length 1), (5, .int .i64 z8.2.1), (6, .int .i64 x1_2.1), (7, .int .i64 x1_2.2), (62, .bool z8.1)]) (fun (z8 : Bool × Int × (List Int)) => (mkH [⟨(z8.2.2).flatMap e3, 0, false⟩])) (fun z8 => ?_) (fun j8 hj8 => ?_)
     ·refine oS 62 (b := z8.1) (by kernel_rfl) (fun hb => ?_) (fun hb => ?_)
      ·let E12 : Env := [(6, .int .i64 (-1)), (62, .bool true), (0, .str a0), (4, .own 0 (z8.2.2).length 1), (5, .int .i64 z8.2.1), (6, .int .i64 x1_2.1), (7, .int .i64 x1_2.2), (62, .bool z8.1)]
       refine oR 6 (p' := g44p16) (eE := E12) (H' := (mkH [⟨(z8.2.2).flatMap e3, 0, false⟩])) (by kernel_rfl) ?_
       refine oK [0, 4, 5, 6, 7] (eE := [(0, .str a0), (4, .own 0 (z8.2.2).length 1), (5, .int .i64 z8.2.1), (6, .int .i64 (-1)), (7, .int .i64 x1_2.2)]) (by kernel_rfl) ?_
       exact hj7 ((-1), x1_2.2, z8.2.1, z8.2.2)
      ·let E13 : Env := [(62, .bool false), (0, .str a0), (4, .own 0 (z8.2.2).length 1), (5, .int .i64 z8.2.1), (6, .int .i64 x1_2.1), (7, .int .i64 x1_2.2), (62, .bool z8.1)]
       refine oR 4 (p' := g44p16) (eE := E13) (H' := (mkH [⟨(z8.2.2).flatMap e3, 0, false⟩])) (by kernel_rfl) ?_
       refine oK [0, 4, 5, 6, 7] (eE := [(0, .str a0), (4, .own 0 (z8.2.2).length 1), (5, .int .i64 z8.2.1), (6, .int .i64 x1_2.1), (7, .int .i64 x1_2.2)]) (by kernel_rfl) ?_
       exact hj7 (x1_2.1, x1_2.2, z8.2.1, z8.2.2)
     ·refine oS 59 (b := decide (x1_2.1 = fW .i64 x3_2)) (by kernel_rfl) (fun hb => ?_) (fun hb => ?_)
      ·refine oR 4 (p' := g44p17) (eE := ((62, .bool true) :: (61, .tuple []) :: (60, .tuple []) :: (59, .bool true) :: E11)) (H' := (mkH [⟨(y6_1).flatMap e3, 0, false⟩])) (by kernel_rfl) ?_
       refine oK [0, 4, 5, 6, 7, 62] (eE := [(0, .str a0), (4, .own 0 (y6_1).length 1), (5, .int .i64 y6_0), (6, .int .i64 x1_2.1), (7, .int .i64 x1_2.2), (62, .bool true)]) (by kernel_rfl) ?_
       exact hj8 (true, y6_0, y6_1)
      ·refine oR 4 (p' := g44p17) (eE := ((62, .bool (decide (x1_2.1 < 32))) :: (61, .bool (decide (x1_2.1 < 32))) :: (60, .int .i64 x1_2.1) :: (59, .bool false) :: E11)) (H' := (mkH [⟨(y6_1).flatMap e3, 0, false⟩])) (by kernel_rfl) ?_
       refine oK [0, 4, 5, 6, 7, 62] (eE := [(0, .str a0), (4, .own 0 (y6_1).length 1), (5, .int .i64 y6_0), (6, .int .i64 x1_2.1), (7, .int .i64 x1_2.2), (62, .bool (decide (x1_2.1 < 32)))]) (by kernel_rfl) ?_
       exact hj8 (decide (x1_2.1 < 32), y6_0, y6_1)
  ·refine oR 9 (p' := .fin) (eE := ((3, .int .i64 0) :: (2, .own 0 (y6_1).length 1) :: (72, .own 0 (y6_1).length 1) :: (35, .bool false) :: E3)) (H' := (mkH [⟨(y6_1).flatMap e3, 0, false⟩])) (by kernel_rfl) ?_
   exact oT (r := (y6_1, (0 : Int))) (xs := [.own 0 (y6_1).length 1, .int .i64 0]) (v := .tuple [.vec (y6_1).length 1 ((y6_1).flatMap e3), .int .i64 0]) (by kernel_rfl) (by kernel_rfl) (by kernel_rfl) (.tuple (fz_own e3_len e3_pur rfl rfl (.pures (by kernel_rfl))) (.pures (by kernel_rfl))) (by kernel_rfl)
def g44 (k : Nat) (a0 : (List Nat)) : Option ((List Int) × Int) :=
 jn (fun (z5 : Bool) => if z5 then (some (([] : List Int), (8 : Int))) else (g44_l6 k a0 k 1 ([] : List Int))) (fun j5 => if (decide ((a0.length : Int) < 2)) then (j5 true) else ((nthS a0 0).bind fun x0_5 => if (!decide (x0_5 = 34)) then ((nthS a0 0).bind fun x0_9 => if (!decide (x0_9 = 39)) then (j5 true) else ((nthS a0 (fW .i64 ((a0.length : Int) - 1))).bind fun x0_18 => (nthS a0 0).bind fun x0_20 => j5 (!decide (x0_18 = x0_20)))) else ((nthS a0 (fW .i64 ((a0.length : Int) - 1))).bind fun x0_18 => (nthS a0 0).bind fun x0_20 => j5 (!decide (x0_18 = x0_20)))))
theorem g44_ok (k : Nat) (a0 : (List Nat)) (r : ((List Int) × Int)) (h : g44 k a0 = some r) : PureOk Try.prog 44 [.str a0] (.tuple [.vec (r.1).length 1 ((r.1).flatMap e3), .int .i64 r.2]) := by
 refine pure_of X44 (fun _ => rfl) Try.func44 (by decide +kernel) (by kernel_rfl) (t := g44 k a0) ?_ h
 unfold g44
 refine oE (eE := [(0, .str a0)]) (by kernel_rfl) ?_
 refine oR 7 (p' := g44p1) (eE := [(3, .int .i64 0), (2, .nils), (0, .str a0)]) (H' := (mkH [])) (by kernel_rfl) ?_
 refine oJ (f := fun (z5 : Bool) => if z5 then (some (([] : List Int), (8 : Int))) else (g44_l6 k a0 k 1 ([] : List Int))) g44p2 (fun (z5 : Bool) => [(0, .str a0), (30, .bool z5)]) (fun (z5 : Bool) => (mkH [])) (fun z5 => ?_) (fun j5 hj5 => ?_)
 ·refine oS 30 (b := z5) (by kernel_rfl) (fun hb => ?_) (fun hb => ?_)
  ·let E1 : Env := [(3, .int .i64 8), (2, .nils), (30, .bool true), (0, .str a0), (30, .bool z5)]
   refine oR 7 (p' := .fin) (eE := E1) (H' := (mkH [])) (by kernel_rfl) ?_
   exact oT (r := (([] : List Int), (8 : Int))) (xs := [.nils, .int .i64 8]) (v := .tuple [.vec 0 1 [], .int .i64 8]) (by kernel_rfl) (by kernel_rfl) (by kernel_rfl) (.tuple (.nil (.pures (by kernel_rfl))) (.pures (by kernel_rfl))) (by kernel_rfl)
  ·refine oR 5 (p' := (atN 1 (ctl1 g44p4))) (eE := [(4, .nils), (30, .bool false), (0, .str a0), (30, .bool z5)]) (H' := (mkH [])) (by kernel_rfl) ?_
   refine ok_own [] 4 1 rfl (by kernel_rfl) ?_
   refine oE (eE := [(4, .own 0 (([] : List Int)).length 1), (4, .nils), (30, .bool false), (0, .str a0), (30, .bool z5)]) (by kernel_rfl) ?_
   refine ok_heap (H' := (mkH [⟨(([] : List Int)).flatMap e3, 0, false⟩])) (by kernel_rfl) ?_
   let E2 : Env := [(5, .int .i64 1), (4, .own 0 (([] : List Int)).length 1), (4, .nils), (30, .bool false), (0, .str a0), (30, .bool z5)]
   refine oR 8 (p' := g44p7) (eE := E2) (H' := (mkH [⟨(([] : List Int)).flatMap e3, 0, false⟩])) (by kernel_rfl) ?_
   refine oK [0, 4, 5] (eE := [(0, .str a0), (4, .own 0 (([] : List Int)).length 1), (5, .int .i64 1)]) (by kernel_rfl) ?_
   exact (g44_l6_ok k a0 k) 1 ([] : List Int)
 ·refine ok_if (fun hb2 => ?_) (fun hb2 => ?_)
  ·let E14 : Env := [(11, .bool (decide ((a0.length : Int) < 2))), (10, .bool (decide ((a0.length : Int) < 2))), (9, .int .i64 (a0.length : Int)), (8, .str a0), (3, .int .i64 0), (2, .nils), (0, .str a0)]
   let E15 : Env := [(30, .bool true), (29, .tuple []), (28, .tuple []), (27, .tuple []), (26, .tuple []), (25, .tuple []), (24, .tuple []), (23, .tuple []), (22, .tuple []), (21, .bool true), (20, .bool true), (19, .tuple []), (18, .tuple []), (17, .tuple []), (16, .tuple []), (15, .tuple []), (14, .tuple []), (13, .tuple []), (12, .tuple []), (11, .bool true), (10, .bool true), (9, .int .i64 (a0.length : Int)), (8, .str a0), (3, .int .i64 0), (2, .nils), (0, .str a0)]
   refine ok_draw (p' := nav [0] g44p1) (eE := E15) (H' := (mkH [])) (hs := []) [(0, 0, 0), (1, 0, 0), (3, 0, 0), (7, 0, 0), (15, 0, 0), (31, 0, 0), (63, 0, 0), (127, 0, 0), (255, 0, 0), (511, 0, 0), (1023, 0, 0), (2047, 0, 0), (4095, 0, 0), (8191, 0, 0), (16383, 0, 0), (16383, 0, 0), (49151, 0, 0), (114687, 0, 0), (262143, 0, 0), (16383, 0, 0), (540671, 0, 0), (2097151, 0, 0), (4194303, 0, 0)] (by kernel_rfl) (by kernel_rfl) (by kernel_rfl) (opsD_run 4 (l' := (opsAt g44p1).toList.drop 4) (eE := E14) (H' := (mkH [])) (hs := []) (by kernel_rfl) (opsD_env (eE := [(11, .bool true), (10, .bool true), (9, .int .i64 (a0.length : Int)), (8, .str a0), (3, .int .i64 0), (2, .nils), (0, .str a0)]) (congrArg (fun z : Bool => ([(11, .bool z), (10, .bool z), (9, .int .i64 (a0.length : Int)), (8, .str a0), (3, .int .i64 0), (2, .nils), (0, .str a0)] : Env)) hb2) (opsD_run 19 (l' := (opsAt g44p1).toList.drop 23) (eE := E15) (H' := (mkH [])) (hs := []) (by kernel_rfl) (.nil)))) (by kernel_rfl) (by kernel_rfl) (by kernel_rfl) ?_
   refine oK [0, 30] (eE := [(0, .str a0), (30, .bool true)]) (by kernel_rfl) ?_
   exact hj5 true
  ·refine ok_bind (fun x0_5 hx0_5 => ?_)
   refine ok_if (fun hb3 => ?_) (fun hb3 => ?_)
   ·refine ok_bind (fun x0_9 hx0_9 => ?_)
    refine ok_if (fun hb4 => ?_) (fun hb4 => ?_)
    ·let E14 : Env := [(11, .bool (decide ((a0.length : Int) < 2))), (10, .bool (decide ((a0.length : Int) < 2))), (9, .int .i64 (a0.length : Int)), (8, .str a0), (3, .int .i64 0), (2, .nils), (0, .str a0)]
     let E16 : Env := [(12, .str a0), (11, .bool false), (10, .bool false), (9, .int .i64 (a0.length : Int)), (8, .str a0), (3, .int .i64 0), (2, .nils), (0, .str a0)]
     let E17 : Env := ((17, .int .u8 x0_9) :: (16, .str a0) :: (15, .bool true) :: (14, .bool true) :: (13, .int .u8 x0_5) :: E16)
     let E18 : Env := ((30, .bool true) :: (29, .tuple []) :: (28, .tuple []) :: (27, .tuple []) :: (26, .tuple []) :: (25, .tuple []) :: (24, .tuple []) :: (23, .tuple []) :: (22, .tuple []) :: (21, .bool true) :: (20, .bool true) :: (19, .bool true) :: (18, .bool true) :: E17)
     refine ok_draw (p' := nav [0] g44p1) (eE := E18) (H' := (mkH [])) (hs := []) [(0, 0, 0), (1, 0, 0), (3, 0, 0), (7, 0, 0), (15, 0, 0), (31, 0, 0), (63, 0, 0), (127, 0, 0), (255, 0, 0), (511, 0, 0), (1023, 0, 0), (2047, 0, 0), (4095, 0, 0), (8191, 0, 0), (16383, 0, 0), (16383, 0, 0), (49151, 0, 0), (114687, 0, 0), (262143, 0, 0), (16383, 0, 0), (540671, 0, 0), (2097151, 0, 0), (4194303, 0, 0)] (by kernel_rfl) (by kernel_rfl) (by kernel_rfl) (opsD_run 4 (l' := (opsAt g44p1).toList.drop 4) (eE := E14) (H' := (mkH [])) (hs := []) (by kernel_rfl) (opsD_env (eE := [(11, .bool false), (10, .bool false), (9, .int .i64 (a0.length : Int)), (8, .str a0), (3, .int .i64 0), (2, .nils), (0, .str a0)]) (congrArg (fun z : Bool => ([(11, .bool z), (10, .bool z), (9, .int .i64 (a0.length : Int)), (8, .str a0), (3, .int .i64 0), (2, .nils), (0, .str a0)] : Env)) hb2) (opsD_run 1 (l' := (opsAt g44p1).toList.drop 5) (eE := E16) (H' := (mkH [])) (hs := []) (by kernel_rfl) (opsD_chk (l' := (opsAt g44p1).toList.drop 6) (eE := ((13, .int .u8 x0_5) :: E16)) (hs := []) (x := x0_5) (fun (x0_5 : Int) => (.int .u8 x0_5, (mkH []))) (idxH (by kernel_rfl)) hx0_5 (by kernel_rfl) (opsD_run 2 (l' := (opsAt g44p1).toList.drop 8) (eE := ((15, .bool (!decide (x0_5 = 34))) :: (14, .bool (!decide (x0_5 = 34))) :: (13, .int .u8 x0_5) :: E16)) (H' := (mkH [])) (hs := []) (by kernel_rfl) (opsD_env (eE := ((15, .bool true) :: (14, .bool true) :: (13, .int .u8 x0_5) :: E16)) (congrArg (fun z : Bool => (((15, .bool z) :: (14, .bool z) :: (13, .int .u8 x0_5) :: E16) : Env)) hb3) (opsD_run 1 (l' := (opsAt g44p1).toList.drop 9) (eE := ((16, .str a0) :: (15, .bool true) :: (14, .bool true) :: (13, .int .u8 x0_5) :: E16)) (H' := (mkH [])) (hs := []) (by kernel_rfl) (opsD_chk (l' := (opsAt g44p1).toList.drop 10) (eE := E17) (hs := []) (x := x0_9) (fun (x0_9 : Int) => (.int .u8 x0_9, (mkH []))) (idxH (by kernel_rfl)) hx0_9 (by kernel_rfl) (opsD_run 4 (l' := (opsAt g44p1).toList.drop 14) (eE := ((21, .bool (!decide (x0_9 = 39))) :: (20, .bool (!decide (x0_9 = 39))) :: (19, .bool (!decide (x0_9 = 39))) :: (18, .bool (!decide (x0_9 = 39))) :: E17)) (H' := (mkH [])) (hs := []) (by kernel_rfl) (opsD_env (eE := ((21, .bool true) :: (20, .bool true) :: (19, .bool true) :: (18, .bool true) :: E17)) (congrArg (fun z : Bool => (((21, .bool z) :: (20, .bool z) :: (19, .bool z) :: (18, .bool z) :: E17) : Env)) hb4) (opsD_run 9 (l' := (opsAt g44p1).toList.drop 23) (eE := E18) (H' := (mkH [])) (hs := []) (by kernel_rfl) (.nil)))))))))))) (by kernel_rfl) (by kernel_rfl) (by kernel_rfl) ?_
     refine oK [0, 30] (eE := [(0, .str a0), (30, .bool true)]) (by kernel_rfl) ?_
     exact hj5 true
    ·refine ok_bind (fun x0_18 hx0_18 => ?_)
     refine ok_bind (fun x0_20 hx0_20 => ?_)
     let E14 : Env := [(11, .bool (decide ((a0.length : Int) < 2))), (10, .bool (decide ((a0.length : Int) < 2))), (9, .int .i64 (a0.length : Int)), (8, .str a0), (3, .int .i64 0), (2, .nils), (0, .str a0)]
     let E16 : Env := [(12, .str a0), (11, .bool false), (10, .bool false), (9, .int .i64 (a0.length : Int)), (8, .str a0), (3, .int .i64 0), (2, .nils), (0, .str a0)]
     let E17 : Env := ((17, .int .u8 x0_9) :: (16, .str a0) :: (15, .bool true) :: (14, .bool true) :: (13, .int .u8 x0_5) :: E16)
     let E19 : Env := ((25, .int .i64 (fW .i64 ((a0.length : Int) - 1))) :: (24, .int .i64 (a0.length : Int)) :: (23, .str a0) :: (22, .str a0) :: (21, .bool false) :: (20, .bool false) :: (19, .bool false) :: (18, .bool false) :: E17)
     let E20 : Env := ((30, .bool (!decide (x0_18 = x0_20))) :: (29, .bool (!decide (x0_18 = x0_20))) :: (28, .int .u8 x0_20) :: (27, .str a0) :: (26, .int .u8 x0_18) :: E19)
     refine ok_draw (p' := nav [0] g44p1) (eE := E20) (H' := (mkH [])) (hs := []) [(0, 0, 0), (1, 0, 0), (3, 0, 0), (7, 0, 0), (15, 0, 0), (31, 0, 0), (63, 0, 0), (127, 0, 0), (255, 0, 0), (511, 0, 0), (1023, 0, 0), (2047, 0, 0), (4095, 0, 0), (8191, 0, 0), (16383, 0, 0), (16383, 0, 0), (49151, 0, 0), (114687, 0, 0), (262143, 0, 0), (16383, 0, 0), (540671, 0, 0), (2097151, 0, 0), (4194303, 0, 0)] (by kernel_rfl) (by kernel_rfl) (by kernel_rfl) (opsD_run 4 (l' := (opsAt g44p1).toList.drop 4) (eE := E14) (H' := (mkH [])) (hs := []) (by kernel_rfl) (opsD_env (eE := [(11, .bool false), (10, .bool false), (9, .int .i64 (a0.length : Int)), (8, .str a0), (3, .int .i64 0), (2, .nils), (0, .str a0)]) (congrArg (fun z : Bool => ([(11, .bool z), (10, .bool z), (9, .int .i64 (a0.length : Int)), (8, .str a0), (3, .int .i64 0), (2, .nils), (0, .str a0)] : Env)) hb2) (opsD_run 1 (l' := (opsAt g44p1).toList.drop 5) (eE := E16) (H' := (mkH [])) (hs := []) (by kernel_rfl) (opsD_chk (l' := (opsAt g44p1).toList.drop 6) (eE := ((13, .int .u8 x0_5) :: E16)) (hs := []) (x := x0_5) (fun (x0_5 : Int) => (.int .u8 x0_5, (mkH []))) (idxH (by kernel_rfl)) hx0_5 (by kernel_rfl) (opsD_run 2 (l' := (opsAt g44p1).toList.drop 8) (eE := ((15, .bool (!decide (x0_5 = 34))) :: (14, .bool (!decide (x0_5 = 34))) :: (13, .int .u8 x0_5) :: E16)) (H' := (mkH [])) (hs := []) (by kernel_rfl) (opsD_env (eE := ((15, .bool true) :: (14, .bool true) :: (13, .int .u8 x0_5) :: E16)) (congrArg (fun z : Bool => (((15, .bool z) :: (14, .bool z) :: (13, .int .u8 x0_5) :: E16) : Env)) hb3) (opsD_run 1 (l' := (opsAt g44p1).toList.drop 9) (eE := ((16, .str a0) :: (15, .bool true) :: (14, .bool true) :: (13, .int .u8 x0_5) :: E16)) (H' := (mkH [])) (hs := []) (by kernel_rfl) (opsD_chk (l' := (opsAt g44p1).toList.drop 10) (eE := E17) (hs := []) (x := x0_9) (fun (x0_9 : Int) => (.int .u8 x0_9, (mkH []))) (idxH (by kernel_rfl)) hx0_9 (by kernel_rfl) (opsD_run 4 (l' := (opsAt g44p1).toList.drop 14) (eE := ((21, .bool (!decide (x0_9 = 39))) :: (20, .bool (!decide (x0_9 = 39))) :: (19, .bool (!decide (x0_9 = 39))) :: (18, .bool (!decide (x0_9 = 39))) :: E17)) (H' := (mkH [])) (hs := []) (by kernel_rfl) (opsD_env (eE := ((21, .bool false) :: (20, .bool false) :: (19, .bool false) :: (18, .bool false) :: E17)) (congrArg (fun z : Bool => (((21, .bool z) :: (20, .bool z) :: (19, .bool z) :: (18, .bool z) :: E17) : Env)) hb4) (opsD_run 4 (l' := (opsAt g44p1).toList.drop 18) (eE := E19) (H' := (mkH [])) (hs := []) (by kernel_rfl) (opsD_chk (l' := (opsAt g44p1).toList.drop 19) (eE := ((26, .int .u8 x0_18) :: E19)) (hs := []) (x := x0_18) (fun (x0_18 : Int) => (.int .u8 x0_18, (mkH []))) (idxH (by kernel_rfl)) hx0_18 (by kernel_rfl) (opsD_run 1 (l' := (opsAt g44p1).toList.drop 20) (eE := ((27, .str a0) :: (26, .int .u8 x0_18) :: E19)) (H' := (mkH [])) (hs := []) (by kernel_rfl) (opsD_chk (l' := (opsAt g44p1).toList.drop 21) (eE := ((28, .int .u8 x0_20) :: (27, .str a0) :: (26, .int .u8 x0_18) :: E19)) (hs := []) (x := x0_20) (fun (x0_20 : Int) => (.int .u8 x0_20, (mkH []))) (idxH (by kernel_rfl)) hx0_20 (by kernel_rfl) (opsD_run 2 (l' := (opsAt g44p1).toList.drop 23) (eE := E20) (H' := (mkH [])) (hs := []) (by kernel_rfl) (.nil)))))))))))))))) (by kernel_rfl) (by kernel_rfl) (by kernel_rfl) ?_
     refine oK [0, 30] (eE := [(0, .str a0), (30, .bool (!decide (x0_18 = x0_20)))]) (by kernel_rfl) ?_
     exact hj5 (!decide (x0_18 = x0_20))
   ·refine ok_bind (fun x0_18 hx0_18 => ?_)
    refine ok_bind (fun x0_20 hx0_20 => ?_)
    let E14 : Env := [(11, .bool (decide ((a0.length : Int) < 2))), (10, .bool (decide ((a0.length : Int) < 2))), (9, .int .i64 (a0.length : Int)), (8, .str a0), (3, .int .i64 0), (2, .nils), (0, .str a0)]
    let E16 : Env := [(12, .str a0), (11, .bool false), (10, .bool false), (9, .int .i64 (a0.length : Int)), (8, .str a0), (3, .int .i64 0), (2, .nils), (0, .str a0)]
    let E21 : Env := ((25, .int .i64 (fW .i64 ((a0.length : Int) - 1))) :: (24, .int .i64 (a0.length : Int)) :: (23, .str a0) :: (22, .str a0) :: (21, .bool false) :: (20, .bool false) :: (19, .bool false) :: (18, .tuple []) :: (17, .tuple []) :: (16, .tuple []) :: (15, .bool false) :: (14, .bool false) :: (13, .int .u8 x0_5) :: E16)
    let E22 : Env := ((30, .bool (!decide (x0_18 = x0_20))) :: (29, .bool (!decide (x0_18 = x0_20))) :: (28, .int .u8 x0_20) :: (27, .str a0) :: (26, .int .u8 x0_18) :: E21)
    refine ok_draw (p' := nav [0] g44p1) (eE := E22) (H' := (mkH [])) (hs := []) [(0, 0, 0), (1, 0, 0), (3, 0, 0), (7, 0, 0), (15, 0, 0), (31, 0, 0), (63, 0, 0), (127, 0, 0), (255, 0, 0), (511, 0, 0), (1023, 0, 0), (2047, 0, 0), (4095, 0, 0), (8191, 0, 0), (16383, 0, 0), (16383, 0, 0), (49151, 0, 0), (114687, 0, 0), (262143, 0, 0), (16383, 0, 0), (540671, 0, 0), (2097151, 0, 0), (4194303, 0, 0)] (by kernel_rfl) (by kernel_rfl) (by kernel_rfl) (opsD_run 4 (l' := (opsAt g44p1).toList.drop 4) (eE := E14) (H' := (mkH [])) (hs := []) (by kernel_rfl) (opsD_env (eE := [(11, .bool false), (10, .bool false), (9, .int .i64 (a0.length : Int)), (8, .str a0), (3, .int .i64 0), (2, .nils), (0, .str a0)]) (congrArg (fun z : Bool => ([(11, .bool z), (10, .bool z), (9, .int .i64 (a0.length : Int)), (8, .str a0), (3, .int .i64 0), (2, .nils), (0, .str a0)] : Env)) hb2) (opsD_run 1 (l' := (opsAt g44p1).toList.drop 5) (eE := E16) (H' := (mkH [])) (hs := []) (by kernel_rfl) (opsD_chk (l' := (opsAt g44p1).toList.drop 6) (eE := ((13, .int .u8 x0_5) :: E16)) (hs := []) (x := x0_5) (fun (x0_5 : Int) => (.int .u8 x0_5, (mkH []))) (idxH (by kernel_rfl)) hx0_5 (by kernel_rfl) (opsD_run 2 (l' := (opsAt g44p1).toList.drop 8) (eE := ((15, .bool (!decide (x0_5 = 34))) :: (14, .bool (!decide (x0_5 = 34))) :: (13, .int .u8 x0_5) :: E16)) (H' := (mkH [])) (hs := []) (by kernel_rfl) (opsD_env (eE := ((15, .bool false) :: (14, .bool false) :: (13, .int .u8 x0_5) :: E16)) (congrArg (fun z : Bool => (((15, .bool z) :: (14, .bool z) :: (13, .int .u8 x0_5) :: E16) : Env)) hb3) (opsD_run 10 (l' := (opsAt g44p1).toList.drop 18) (eE := E21) (H' := (mkH [])) (hs := []) (by kernel_rfl) (opsD_chk (l' := (opsAt g44p1).toList.drop 19) (eE := ((26, .int .u8 x0_18) :: E21)) (hs := []) (x := x0_18) (fun (x0_18 : Int) => (.int .u8 x0_18, (mkH []))) (idxH (by kernel_rfl)) hx0_18 (by kernel_rfl) (opsD_run 1 (l' := (opsAt g44p1).toList.drop 20) (eE := ((27, .str a0) :: (26, .int .u8 x0_18) :: E21)) (H' := (mkH [])) (hs := []) (by kernel_rfl) (opsD_chk (l' := (opsAt g44p1).toList.drop 21) (eE := ((28, .int .u8 x0_20) :: (27, .str a0) :: (26, .int .u8 x0_18) :: E21)) (hs := []) (x := x0_20) (fun (x0_20 : Int) => (.int .u8 x0_20, (mkH []))) (idxH (by kernel_rfl)) hx0_20 (by kernel_rfl) (opsD_run 2 (l' := (opsAt g44p1).toList.drop 23) (eE := E22) (H' := (mkH [])) (hs := []) (by kernel_rfl) (.nil)))))))))))) (by kernel_rfl) (by kernel_rfl) (by kernel_rfl) ?_
    refine oK [0, 30] (eE := [(0, .str a0), (30, .bool (!decide (x0_18 = x0_20)))]) (by kernel_rfl) ?_
    exact hj5 (!decide (x0_18 = x0_20))
end
end Go.Proofs.Ytabhkocokojddaa.Am
set_option maxRecDepth 100000
set_option linter.unusedVariables false
set_option linter.unusedSimpArgs false
namespace Go.Proofs.Ytabhkocokojddaa.Am
open Go
def chaN (s : List Nat) : Int × Int := match s with
 | a :: c :: r => if a = 36 then (if c = 92 then (if (escN (c :: r)).2 = ((r.length + 1 : Nat) : Int) then ((escN (c :: r)).1, 0) else (0, 8)) else if (dec (c :: r)).1 ≤ 32 ∨ (dec (c :: r)).1 = 127 then (0, 8) else if (dec (c :: r)).2 = ((r.length + 1 : Nat) : Int) then ((dec (c :: r)).1, 0) else (0, 8)) else (0, 8)
 | _ => (0, 8)
theorem nlen2 {s : List Nat} (h : s.length < 2) : chaN s = (0, 8) := by
 match s, h with
 | [], _ => rfl
 | [a], _ => rfl
 | a :: c :: r, h => simp only [List.length_cons] at h; omega
theorem two_of {s : List Nat} (h : ¬ s.length < 2) : ∃ a c r, s = a :: c :: r ∧ nthS s 0 = some (a : Int) ∧ nthS s 1 = some (c : Int) ∧ s.length = r.length + 2 ∧ s.drop 1 = c :: r := by
 match s, h with
 | [], h => simp at h
 | [a], h => simp at h
 | a :: c :: r, _ => exact ⟨a, c, r, rfl, nthX (i := 0) rfl rfl, nthX (i := 1) rfl rfl, rfl, rfl⟩
theorem Char_at {k : Nat} (hk : 10 ≤ k) {s : List Nat} (hs : By s) (hl : Sz s) : g39 k s = some (chaN s) := by
 have hl' := hl
 unfold Sz at hl
 unfold g39
 by_cases h2 : s.length < 2
 ·rw [nlen2 h2]
  refine (jS (v := true) (fun j => ?_)).trans rfl
  exact iT (dT (by omega)) rfl
 ·obtain ⟨a, c, r, rfl, n0, n1, hlen, d1⟩ := two_of h2
  by_cases h36 : a = 36
  ·refine (jS (v := false) (fun j => ?_)).trans ?_
   ·refine iF (dF (by omega)) ?_
    refine bS (by (try simp (disch := omega) only [fwI]); exact n0) ?_
    rw [dT (by omega)]; rfl
   ·refine iF rfl ?_
    have ea := escape_at hk hs hl' 1
    rw [d1] at ea
    have ea' : g41 k (a :: c :: r) 1 = some (escN (c :: r)) := ea
    refine bS (by (try simp (disch := omega) only [fwI]); exact ea') ?_
    refine bS (by (try simp (disch := omega) only [fwI]); exact n1) ?_
    rw [fwI (by omega) (by omega)]
    simp only [chaN, h36, if_true]
    have fin : ∀ (v n : Int), n = ((r.length + 1 : Nat) : Int) ∨ ¬ n = ((r.length + 1 : Nat) : Int) → (if (!decide (n = (((36 :: c :: r).length : Int) - 1))) = true then some ((0 : Int), (8 : Int)) else some (v, 0)) = some (if n = ((r.length + 1 : Nat) : Int) then (v, 0) else (0, 8)) := by
     intro v n h
     have e : (((36 :: c :: r).length : Int) - 1) = ((r.length + 1 : Nat) : Int) := by simp only [List.length_cons]; omega
     rw [e]
     rcases h with h | h
     ·rw [if_pos h, dT h]; rfl
     ·rw [if_neg h, dF h]; rfl
    subst h36
    by_cases h92 : c = 92
    ·rw [if_pos h92]
     refine (jS (v := ((escN (c :: r)).1, (escN (c :: r)).2)) (fun j => ?_)).trans ?_
     ·exact iF (by rw [dT (by omega)]; rfl) rfl
     ·exact fin _ _ (Classical.em _)
    ·rw [if_neg h92]
     have nx := next_at (k := k) (by omega) hs hl' 1
     rw [d1] at nx
     have nx' : g78 k (36 :: c :: r) 1 = some (dec (c :: r)) := nx
     by_cases h : (dec (c :: r)).1 ≤ 32 ∨ (dec (c :: r)).1 = 127
     ·rw [if_pos h]
      refine (jS (v := ((dec (c :: r)).1, 0)) (fun j => ?_)).trans ?_
      ·refine iT (by rw [dF (by omega)]; rfl) ?_
       refine bS (by (try simp (disch := omega) only [fwI]); exact nx') ?_
       refine (jS (v := true) (fun j => ?_)).trans rfl
       by_cases h1 : (dec (c :: r)).1 ≤ 32
       ·exact iT (dT h1) rfl
       ·refine iF (dF h1) ?_
        rw [dT (by omega)]
      ·refine (fin _ 0 (Classical.em _)).trans ?_
       rw [if_neg (by omega)]
     ·rw [if_neg h]
      refine (jS (v := ((dec (c :: r)).1, (dec (c :: r)).2)) (fun j => ?_)).trans ?_
      ·refine iT (by rw [dF (by omega)]; rfl) ?_
       refine bS (by (try simp (disch := omega) only [fwI]); exact nx') ?_
       refine (jS (v := false) (fun j => ?_)).trans rfl
       refine iF (dF (by omega)) ?_
       rw [dF (by omega)]
      ·exact fin _ _ (Classical.em _)
  ·refine (jS (v := true) (fun j => ?_)).trans ?_
   ·refine iF (dF (by omega)) ?_
    refine bS (by (try simp (disch := omega) only [fwI]); exact n0) ?_
    rw [dF (by omega)]; rfl
   ·simp only [chaN, h36, if_false]; rfl
theorem rChar_at {k : Nat} (hk : 10 ≤ k) {s : List Nat} (hs : By s) (hl : Sz s) : g40 k s = some (chaN s) := by
 have hl' := hl
 unfold Sz at hl
 unfold g40
 by_cases h2 : s.length < 2
 ·rw [nlen2 h2]
  refine (jS (v := true) (fun j => ?_)).trans rfl
  exact iT (dT (by omega)) rfl
 ·obtain ⟨a, c, r, rfl, n0, n1, hlen, d1⟩ := two_of h2
  by_cases h36 : a = 36
  ·refine (jS (v := false) (fun j => ?_)).trans ?_
   ·refine iF (dF (by omega)) ?_
    refine bS (by (try simp (disch := omega) only [fwI]); exact n0) ?_
    rw [dT (by omega)]; rfl
   ·refine iF rfl ?_
    refine bS (by (try simp (disch := omega) only [fwI]); exact n1) ?_
    simp only [chaN, h36, if_true]
    subst h36
    have el : (((36 :: c :: r).length : Nat) : Int) = ((r.length + 2 : Nat) : Int) := by simp only [List.length_cons]
    rw [el]
    simp only [List.length_cons] at hl
    by_cases h92 : c = 92
    ·rw [if_pos h92]
     have ea := rescape_at hk hs hl' 1
     rw [d1] at ea
     have ea' : g42 k (36 :: c :: r) 1 = some (escN (c :: r)) := ea
     refine iT (dT (by omega)) ?_
     refine bS (by (try simp (disch := omega) only [fwI]); exact ea') ?_
     rcases escN_cases (c :: r) with h | ⟨v, n, h, h3, h4⟩
     ·rw [h]
      rw [if_neg (show ¬ ((-1 : Int), (0 : Int)).2 = ((r.length + 1 : Nat) : Int) by show ¬ (0 : Int) = _; omega)]
      refine (jS (v := true) (fun j => ?_)).trans rfl
      exact iT (dT (by decide)) rfl
     ·rw [h]
      simp only [List.length_cons] at h4
      by_cases hn : (n : Int) = ((r.length + 1 : Nat) : Int)
      ·rw [if_pos hn]
       refine (jS (v := false) (fun j => ?_)).trans rfl
       refine iF (dF (show ¬ ((v : Int) < 0) by omega)) ?_
       rw [fw_s (by omega), dT (by omega)]; rfl
      ·rw [if_neg hn]
       refine (jS (v := true) (fun j => ?_)).trans rfl
       refine iF (dF (show ¬ ((v : Int) < 0) by omega)) ?_
       rw [fw_s (by omega), dF (by omega)]; rfl
    ·rw [if_neg h92]
     have nx := rnext_at (k := k) (by omega) hs hl' 1
     rw [d1] at nx
     have nx' : g72 k (36 :: c :: r) 1 = some (dec (c :: r)) := nx
     refine iF (dF (by omega)) ?_
     refine bS (by (try simp (disch := omega) only [fwI]); exact nx') ?_
     obtain ⟨n, q1, q2, q3, q4, -⟩ := dec_size (s := c :: r) (by simp)
     simp only [List.length_cons] at q4
     by_cases h : (dec (c :: r)).1 ≤ 32 ∨ (dec (c :: r)).1 = 127
     ·rw [if_pos h]
      refine (jS (v := true) (fun j => ?_)).trans rfl
      by_cases h1 : (dec (c :: r)).1 ≤ 32
      ·exact iT (dT h1) rfl
      ·exact iF (dF h1) (iT (dT (by omega)) rfl)
     ·rw [if_neg h, q1]
      by_cases hn : (n : Int) = ((r.length + 1 : Nat) : Int)
      ·rw [if_pos hn]
       refine (jS (v := false) (fun j => ?_)).trans rfl
       refine iF (dF (by omega)) ?_
       refine iF (dF (by omega)) ?_
       clear q1
       rw [fw_s (by omega), dT (by omega)]; rfl
      ·rw [if_neg hn]
       refine (jS (v := true) (fun j => ?_)).trans rfl
       refine iF (dF (by omega)) ?_
       refine iF (dF (by omega)) ?_
       clear q1
       rw [fw_s (by omega), dF (by omega)]; rfl
  ·refine (jS (v := true) (fun j => ?_)).trans ?_
   ·refine iF (dF (by omega)) ?_
    refine bS (by (try simp (disch := omega) only [fwI]); exact n0) ?_
    rw [dF (by omega)]; rfl
   ·simp only [chaN, h36, if_false]; rfl
end Go.Proofs.Ytabhkocokojddaa.Am
set_option maxRecDepth 100000
set_option linter.unusedVariables false
set_option linter.unusedSimpArgs false
namespace Go.Proofs.Ytabhkocokojddaa.Am
open Go
def quV (q e : Nat) (s : List Nat) : Nat → Nat → Option (List Int)
 | 0, _ => some []
 | f + 1, a => if e ≤ a then some [] else match s.drop a with
  | [] => some []
  | c :: r => if c = 92 then (if (escN ((s.take e).drop a)).2 = 0 then none else (quV q e s f (a + (escN ((s.take e).drop a)).2.toNat)).map fun l => (escN ((s.take e).drop a)).1 :: l)
   else if c = q ∨ (dec (c :: r)).1 < 32 then none else (quV q e s f (a + (dec (c :: r)).2.toNat)).map fun l => (dec (c :: r)).1 :: l
theorem dec_stop {c : Nat} {r : List Nat} {n b : Nat} {w : List Nat} (h0 : ¬ (dec (c :: r)).1 < 0) (h1 : (dec (c :: r)).2 = (n : Int)) {i : Nat} (hi : (c :: r).drop i = b :: w) (h2 : 1 ≤ i) (hb : b < 128) : n ≤ i := by
 rcases Nat.lt_or_ge i n with hlt | hge
 ·exfalso
  simp only [dec] at h0 h1
  by_cases hl : (leadN c).1 = 0
  ·rw [if_pos hl] at h0; exact h0 (show ((-1 : Int), (1 : Int)).1 < 0 by decide)
  ·rw [if_neg hl] at h0 h1
   cases hy : moreN ((leadN c).1 - 1) (leadN c).2 r with
   | none => rw [hy] at h0; exact h0 (show ((-1 : Int), (1 : Int)).1 < 0 by decide)
   | some y =>
    rw [hy] at h0 h1
    simp only [fitN] at h0 h1
    split at h0
    ·rename_i hf
     rw [if_pos hf] at h1
     have h1 : ((leadN c).1 : Int) = (n : Int) := h1
     obtain ⟨i, rfl⟩ : ∃ j, i = j + 1 := ⟨i - 1, by omega⟩
     rw [List.drop_succ_cons] at hi
     obtain ⟨b', hb', hb2⟩ := moreN_cont' _ _ _ _ hy i (by omega)
     have := List.getElem?_drop (xs := r) (i := i) (j := 0)
     rw [hi, Nat.add_zero, hb'] at this
     simp at this
     omega
    ·exact h0 (show ((-1 : Int), (1 : Int)).1 < 0 by decide)
 ·exact hge
theorem quo_l {k : Nat} {s : List Nat} (hs : By s) (hl : s.length ≤ 200) (hk : 10 ≤ k) {q e : Nat} (he : e + 1 = s.length) (hq : q < 128) (hq92 : q ≠ 92) (n0 : nthS s 0 = some (q : Int)) (hend : s.drop e = [q]) : ∀ (d f a : Nat) (acc : List Int), e < a + d → d < f → a ≤ e → acc.length ≤ a →
 g43_l7 k s f (a : Int) acc = some (match quV q e s d a with | some l => (acc ++ l, 0) | none => ([], 8)) ∧
 g44_l6 k s f (a : Int) acc = some (match quV q e s d a with | some l => (acc ++ l, 0) | none => ([], 8))
 | 0, f, a, acc, h, hf, ha, hacc => by omega
 | d + 1, f, a, acc, h, hf, ha, hacc => by
  have hlz : Sz s := by unfold Sz; omega
  obtain ⟨f, rfl⟩ : ∃ f', f = f' + 1 := ⟨f - 1, by omega⟩
  rw [g43_l7_s, g44_l6_s]
  have ee := fun _ : Unit => (show fW .i64 ((s.length : Int) - 1) = (e : Int) by rw [fwI (by omega) (by omega)]; omega)
  rw [ee ()]
  rcases Nat.lt_or_ge a e with hlt | hge
  ·obtain ⟨c, r, hc, hr, hm, hrl⟩ := dcons (s := s) (i := a) (by omega)
   have nc := nthX (x := (a : Int)) rfl hc
   have nx := next_at (k := k) (by omega) hs hlz a
   have rnx := rnext_at (k := k) (by omega) hs hlz a
   rw [hc] at nx rnx
   have qv : quV q e s (d + 1) a = if c = 92 then (if (escN ((s.take e).drop a)).2 = 0 then none else (quV q e s d (a + (escN ((s.take e).drop a)).2.toNat)).map fun l => (escN ((s.take e).drop a)).1 :: l)
    else if c = q ∨ (dec (c :: r)).1 < 32 then none else (quV q e s d (a + (dec (c :: r)).2.toNat)).map fun l => (dec (c :: r)).1 :: l := by
    simp only [quV]
    rw [if_neg (by omega), hc]
   rw [qv]
   clear qv
   have sb := subTo (s := s) (x := (e : Int)) (i := e) rfl (by omega)
   have tl : (s.take e).length = e := by rw [List.length_take]; omega
   have step : ∀ (v : Int) (m : Nat), 1 ≤ m → a + m ≤ e →
    ((appS 8 acc [v]).bind (fun x5_3 => g43_l7 k s f (fW .i64 ((a : Int) + (m : Int))) x5_3) = some (match (quV q e s d (a + m)).map (fun l => v :: l) with | some l => (acc ++ l, 0) | none => ([], 8))) ∧
    ((appS 8 acc [v]).bind (fun x5_3 => g44_l6 k s f (fW .i64 ((a : Int) + (m : Int))) x5_3) = some (match (quV q e s d (a + m)).map (fun l => v :: l) with | some l => (acc ++ l, 0) | none => ([], 8))) := by
    intro v m hm1 hm2
    have ap : appS 8 acc [v] = some (acc ++ [v]) := by
     unfold appS; rw [if_pos (by simp only [List.length_cons, List.length_nil]; omega)]
    obtain ⟨i1, i2⟩ := quo_l hs hl hk he hq hq92 n0 hend d f (a + m) (acc ++ [v]) (by omega) (by omega) hm2 (by rw [List.length_append]; simp only [List.length_cons, List.length_nil]; omega)
    rw [ap, fw_a (by omega) (by omega)]
    constructor
    ·refine (show g43_l7 k s f ((a + m : Nat) : Int) (acc ++ [v]) = _ from i1).trans ?_
     cases quV q e s d (a + m) with
     | none => rfl
     | some l => simp only [Option.map_some, List.append_assoc, List.singleton_append]
    ·refine (show g44_l6 k s f ((a + m : Nat) : Int) (acc ++ [v]) = _ from i2).trans ?_
     cases quV q e s d (a + m) with
     | none => rfl
     | some l => simp only [Option.map_some, List.append_assoc, List.singleton_append]
   by_cases h92 : c = 92
   ·rw [if_pos h92]
    have ea := escape_at (k := k) hk (s := s.take e) (hs.take e) (by unfold Sz; omega) a
    have ra := rescape_at (k := k) hk (s := s.take e) (hs.take e) (by unfold Sz; omega) a
    have d92 : (dec (c :: r)).1 = 92 := by rw [h92, dec_ascii r (by decide)]; rfl
    rcases escN_cases ((s.take e).drop a) with h0 | ⟨v, n, h0, h3, h4⟩
    ·rw [h0] at ea ra ⊢
     constructor
     ·refine iT (dT (by omega)) ?_
      refine bS (by (try simp (disch := omega) only [fwI]); exact nx) ?_
      refine bS (by (try simp (disch := omega) only [fwI]); exact nc) ?_
      refine jC fun j => ?_
      refine iT (dT (by omega)) ?_
      refine bS (by (try simp (disch := omega) only [fwI]); exact sb) ?_
      refine bS (by (try simp (disch := omega) only [fwI]); exact ea) ?_
      exact iT rfl rfl
     ·refine iT (dT (by omega)) ?_
      refine bS (by (try simp (disch := omega) only [fwI]); exact rnx) ?_
      refine (jS (v := ((-1), 0, (a : Int), acc)) (fun j => ?_)).trans ?_
      ·refine iT (dT d92) ?_
       refine bS (by (try simp (disch := omega) only [fwI]); exact sb) ?_
       refine bS (by (try simp (disch := omega) only [fwI]); exact ra) ?_
       rfl
      ·exact iT rfl rfl
    ·rw [h0] at ea ra ⊢
     rw [List.length_drop, tl] at h4
     rw [if_neg (show ¬ ((n : Nat) : Int) = 0 by omega)]
     simp only [Int.toNat_natCast]
     obtain ⟨s1, s2⟩ := step (v : Int) n (by omega) (by omega)
     constructor
     ·refine iT (dT (by omega)) ?_
      refine bS (by (try simp (disch := omega) only [fwI]); exact nx) ?_
      refine bS (by (try simp (disch := omega) only [fwI]); exact nc) ?_
      refine (jS (v := ((n : Int), (v : Int), (a : Int), acc)) (fun j => ?_)).trans ?_
      ·refine iT (dT (by omega)) ?_
       refine bS (by (try simp (disch := omega) only [fwI]); exact sb) ?_
       refine bS (by (try simp (disch := omega) only [fwI]); exact ea) ?_
       exact iF (dF (show ¬ ((n : Nat) : Int) = 0 by omega)) rfl
      ·exact s1
     ·refine iT (dT (by omega)) ?_
      refine bS (by (try simp (disch := omega) only [fwI]); exact rnx) ?_
      refine (jS (v := ((v : Int), (n : Int), (a : Int), acc)) (fun j => ?_)).trans ?_
      ·refine iT (dT d92) ?_
       refine bS (by (try simp (disch := omega) only [fwI]); exact sb) ?_
       refine bS (by (try simp (disch := omega) only [fwI]); exact ra) ?_
       rfl
      ·refine iF (dF (show ¬ ((v : Nat) : Int) < 0 by omega)) ?_
       exact s2
   ·rw [if_neg h92]
    have d92 : ¬ (dec (c :: r)).1 = 92 := by
     by_cases h3 : c < 128
     ·rw [dec_ascii r h3]; show ¬ (c : Int) = 92; omega
     ·rcases dec_big r h3 with h4 | h4 <;> omega
    have c256 := hs c hm
    have dq : (dec (c :: r)).1 = (q : Int) ↔ c = q := by
     by_cases h3 : c < 128
     ·rw [dec_ascii r h3]
      show (c : Int) = q ↔ _
      omega
     ·constructor
      ·intro h; rcases dec_big r h3 with h4 | h4 <;> omega
      ·intro h; omega
    by_cases hbad : c = q ∨ (dec (c :: r)).1 < 32
    ·rw [if_pos hbad]
     constructor
     ·refine iT (dT (by omega)) ?_
      refine bS (by (try simp (disch := omega) only [fwI]); exact nx) ?_
      refine bS (by (try simp (disch := omega) only [fwI]); exact nc) ?_
      refine jC fun j => ?_
      refine iF (dF (by omega)) ?_
      refine (jS (v := (true, (a : Int), acc)) (fun j => ?_)).trans ?_
      ·refine bS (by (try simp (disch := omega) only [fwI]); exact nc) ?_
       refine bS (by (try simp (disch := omega) only [fwI]); exact n0) ?_
       by_cases h : c = q
       ·exact iT (dT (by omega)) rfl
       ·refine iF (dF (by omega)) ?_
        rw [dT (hbad.resolve_left h)]
      ·rfl
     ·refine iT (dT (by omega)) ?_
      refine bS (by (try simp (disch := omega) only [fwI]); exact rnx) ?_
      refine (jS (v := ((-1), (dec (c :: r)).2, (a : Int), acc)) (fun j => ?_)).trans ?_
      ·refine iF (dF d92) ?_
       refine bS (by (try simp (disch := omega) only [fwI]); exact n0) ?_
       rw [fwI (by omega) (by omega)]
       refine (jS (v := (true, (a : Int), acc)) (fun j => ?_)).trans ?_
       ·by_cases h : c = q
        ·exact iT (dT (dq.2 h)) rfl
        ·refine iF (dF (fun hh => h (dq.1 hh))) ?_
         rw [dT (hbad.resolve_left h)]
       ·rfl
      ·exact iT rfl rfl
    ·rw [if_neg hbad]
     obtain ⟨n, q1, q2, q3, q4, -⟩ := dec_size (s := c :: r) (by simp)
     have hnq : ¬ c = q := fun h => hbad (.inl h)
     have h32 : ¬ (dec (c :: r)).1 < 32 := fun h => hbad (.inr h)
     have hstop : n ≤ e - a := by
      refine dec_stop (b := q) (w := []) (i := e - a) (by omega) q1 ?_ (by clear q1; omega) hq
      rw [← hc, List.drop_drop, show a + (e - a) = e by clear q1; omega, hend]
     rw [q1]
     simp only [Int.toNat_natCast]
     obtain ⟨s1, s2⟩ := step (dec (c :: r)).1 n q2 (by clear q1; omega)
     constructor
     ·refine iT (dT (by clear q1; omega)) ?_
      refine bS (by (try simp (disch := omega) only [fwI]); exact nx) ?_
      refine bS (by (try simp (disch := omega) only [fwI]); exact nc) ?_
      refine (jS (v := ((n : Int), (dec (c :: r)).1, (a : Int), acc)) (fun j => ?_)).trans ?_
      ·refine iF (dF (by clear q1; omega)) ?_
       refine (jS (v := (false, (a : Int), acc)) (fun j => ?_)).trans ?_
       ·refine bS (by (try simp (disch := omega) only [fwI]); exact nc) ?_
        refine bS (by (try simp (disch := omega) only [fwI]); exact n0) ?_
        refine iF (dF (by clear q1; omega)) ?_
        rw [dF h32]
       ·refine iF rfl ?_
        rw [q1]
      ·exact s1
     ·refine iT (dT (by clear q1; omega)) ?_
      refine bS (by (try simp (disch := omega) only [fwI]); exact rnx) ?_
      refine (jS (v := ((dec (c :: r)).1, (n : Int), (a : Int), acc)) (fun j => ?_)).trans ?_
      ·refine iF (dF d92) ?_
       refine bS (by (try simp (disch := omega) only [fwI]); exact n0) ?_
       rw [fwI (by clear q1; omega) (by clear q1; omega)]
       refine (jS (v := (false, (a : Int), acc)) (fun j => ?_)).trans ?_
       ·refine iF (dF (fun hh => hnq (dq.1 hh))) ?_
        rw [dF h32]
       ·refine iF rfl ?_
        rw [q1]
      ·refine iF (dF (by clear q1; omega)) ?_
       exact s2
  ·obtain rfl : a = e := by omega
   have qv : quV q a s (d + 1) a = some [] := by simp only [quV]; rw [if_pos (Nat.le_refl _)]
   rw [qv]
   simp only [List.append_nil]
   constructor
   ·refine iF (dF (by omega)) ?_
    exact iF (by first | rfl | (rw [dT rfl]; rfl)) rfl
   ·exact iF (dF (by omega)) rfl
theorem Quoted_at {k : Nat} {s : List Nat} (hs : By s) (hl : s.length ≤ 200) (hk : 210 ≤ k) : ∃ r : List Int × Int, g43 k s = some r ∧ g44 k s = some r ∧ r.1.length ≤ 200 := by
 unfold g43 g44
 by_cases h2 : s.length < 2
 ·refine ⟨([], 8), ?_, ?_, by simp⟩
  ·exact (jS (v := true) (fun j => iT (dT (by omega)) rfl)).trans rfl
  ·exact (jS (v := true) (fun j => iT (dT (by omega)) rfl)).trans rfl
 ·obtain ⟨a, c, r, hr, n0, n1, hlen, d1⟩ := two_of h2
  obtain ⟨z, w, hz, hz2, hzm, hzl⟩ := dcons (s := s) (i := s.length - 1) (by omega)
  have hw : w = [] := List.length_eq_zero_iff.1 (by omega)
  subst hw
  have nz : nthS s ((s.length : Int) - 1) = some (z : Int) := nthX (i := s.length - 1) (by omega) hz
  have ee := fun _ : Unit => (show fW .i64 ((s.length : Int) - 1) = (s.length : Int) - 1 by rw [fwI (by omega) (by omega)])
  by_cases hq : (a = 34 ∨ a = 39) ∧ z = a
  ·obtain ⟨hq1, rfl⟩ := hq
   have cond : ∀ j : Bool → Option (List Int × Int), (if decide ((s.length : Int) < 2) then j true else (nthS s 0).bind fun x0_5 => if (!decide (x0_5 = 34)) then ((nthS s 0).bind fun x0_9 => if (!decide (x0_9 = 39)) then (j true) else ((nthS s (fW .i64 ((s.length : Int) - 1))).bind fun x0_18 => (nthS s 0).bind fun x0_20 => j (!decide (x0_18 = x0_20)))) else ((nthS s (fW .i64 ((s.length : Int) - 1))).bind fun x0_18 => (nthS s 0).bind fun x0_20 => j (!decide (x0_18 = x0_20)))) = j false := by
    intro j
    refine iF (dF (by omega)) ?_
    refine bS (by (try simp (disch := omega) only [fwI]); exact n0) ?_
    rw [ee ()]
    by_cases h34 : z = 34
    ·refine iF (by rw [dT (by omega)]; rfl) ?_
     refine bS (by (try simp (disch := omega) only [fwI]); exact nz) ?_
     refine bS (by (try simp (disch := omega) only [fwI]); exact n0) ?_
     rw [dT rfl]; rfl
    ·refine iT (by rw [dF (by omega)]; rfl) ?_
     refine bS (by (try simp (disch := omega) only [fwI]); exact n0) ?_
     refine iF (by rw [dT (by omega)]; rfl) ?_
     refine bS (by (try simp (disch := omega) only [fwI]); exact nz) ?_
     refine bS (by (try simp (disch := omega) only [fwI]); exact n0) ?_
     rw [dT rfl]; rfl
   obtain ⟨i1, i2⟩ := quo_l (k := k) hs hl (by omega) (q := z) (e := s.length - 1) (by omega) (by omega) (by omega) n0 hz s.length k 1 [] (by omega) (by omega) (by omega) (Nat.zero_le _)
   refine ⟨_, (jS (v := false) cond).trans i1, (jS (v := false) cond).trans i2, ?_⟩
   have ql : ∀ (d p : Nat) (l : List Int), p ≤ s.length - 1 → quV z (s.length - 1) s d p = some l → l.length + p ≤ s.length - 1 := by
    intro d
    induction d with
    | zero => intro p l hp h; cases h; simpa using hp
    | succ d ih =>
     intro p l hp h
     simp only [quV] at h
     split at h
     ·cases h; simp only [List.length_nil]; omega
     ·rename_i hlt
      split at h
      ·cases h; simp only [List.length_nil]; omega
      ·rename_i c r hc
       split at h
       ·split at h
        ·cases h
        ·rename_i h0
         rcases escN_cases ((s.take (s.length - 1)).drop p) with h1 | ⟨v, n, h1, h3, h4⟩
         ·rw [h1] at h0; exact absurd rfl h0
         ·rw [h1] at h
          simp only [Int.toNat_natCast, List.length_drop, List.length_take] at h h4
          cases hx : quV z (s.length - 1) s d (p + n) with
          | none => rw [hx] at h; cases h
          | some l' =>
           rw [hx] at h
           cases h
           have := ih (p + n) l' (by omega) hx
           simp only [List.length_cons]; omega
       ·split at h
        ·cases h
        ·rename_i hb
         obtain ⟨n, q1, q2, q3, q4, -⟩ := dec_size (s := c :: r) (by simp)
         have hstop : n ≤ s.length - 1 - p := by
          refine dec_stop (b := z) (w := []) (i := s.length - 1 - p) (fun h => hb (.inr (by omega))) q1 ?_ (by clear q1; omega) (by clear q1; omega)
          rw [← hc, List.drop_drop, show p + (s.length - 1 - p) = s.length - 1 by clear q1; omega, hz]
         rw [q1] at h
         simp only [Int.toNat_natCast] at h
         clear q1
         cases hx : quV z (s.length - 1) s d (p + n) with
         | none => rw [hx] at h; cases h
         | some l' =>
          rw [hx] at h
          cases h
          have := ih (p + n) l' (by omega) hx
          simp only [List.length_cons]; omega
   cases hx : quV z (s.length - 1) s s.length 1 with
   | none => simp
   | some l =>
    have := ql s.length 1 l (by omega) hx
    simp only [List.nil_append]; omega
  ·have cond : ∀ j : Bool → Option (List Int × Int), (if decide ((s.length : Int) < 2) then j true else (nthS s 0).bind fun x0_5 => if (!decide (x0_5 = 34)) then ((nthS s 0).bind fun x0_9 => if (!decide (x0_9 = 39)) then (j true) else ((nthS s (fW .i64 ((s.length : Int) - 1))).bind fun x0_18 => (nthS s 0).bind fun x0_20 => j (!decide (x0_18 = x0_20)))) else ((nthS s (fW .i64 ((s.length : Int) - 1))).bind fun x0_18 => (nthS s 0).bind fun x0_20 => j (!decide (x0_18 = x0_20)))) = j true := by
    intro j
    refine iF (dF (by omega)) ?_
    refine bS (by (try simp (disch := omega) only [fwI]); exact n0) ?_
    rw [ee ()]
    by_cases h34 : a = 34
    ·refine iF (by rw [dT (by omega)]; rfl) ?_
     refine bS (by (try simp (disch := omega) only [fwI]); exact nz) ?_
     refine bS (by (try simp (disch := omega) only [fwI]); exact n0) ?_
     rw [dF (show ¬ (z : Int) = (a : Int) from fun h => hq ⟨.inl h34, by omega⟩)]; rfl
    ·refine iT (by rw [dF (by omega)]; rfl) ?_
     refine bS (by (try simp (disch := omega) only [fwI]); exact n0) ?_
     by_cases h39 : a = 39
     ·refine iF (by rw [dT (by omega)]; rfl) ?_
      refine bS (by (try simp (disch := omega) only [fwI]); exact nz) ?_
      refine bS (by (try simp (disch := omega) only [fwI]); exact n0) ?_
      rw [dF (show ¬ (z : Int) = (a : Int) from fun h => hq ⟨.inr h39, by omega⟩)]; rfl
     ·exact iT (by rw [dF (by omega)]; rfl) rfl
   exact ⟨([], 8), (jS (v := true) cond).trans rfl, (jS (v := true) cond).trans rfl, by simp⟩
end Go.Proofs.Ytabhkocokojddaa.Am
set_option maxRecDepth 100000
set_option linter.unusedVariables false
namespace Go.Proofs.Ytabhkocokojddaa.Am
noncomputable section
open Go
def X45 : Fx Bool := ⟨Try.prog, cx, Try.f45, fun r => .bool r, 0, fun _ => H0, cxTi, cxOrd⟩
def g45p0 : Pt := nav [0] (bodyAt Try.f45)
def g45p1 : Pt := nav [0, 0, 0] g45p0
def g45 (k : Nat) (a0 : (List Nat)) : Option Bool :=
 if (!(eqL a0 [])) then ((g83 k a0).bind fun x0_4 => some (decide (x0_4 = (a0.length : Int)))) else (some false)
theorem g45_ok (k : Nat) (a0 : (List Nat)) (r : Bool) (h : g45 k a0 = some r) : PureOk Try.prog 45 [.str a0] (.bool r) := by
 refine pure_of X45 (fun _ => rfl) Try.func45 (by decide +kernel) (by kernel_rfl) (t := g45 k a0) ?_ h
 unfold g45
 refine oE (eE := [(0, .str a0)]) (by kernel_rfl) ?_
 let E1 : Env := [(5, .bool (!(eqL a0 []))), (4, .bool (!(eqL a0 []))), (3, .str a0), (2, .bool false), (0, .str a0)]
 refine oR 9 (p' := (atN 3 (ctl1 g45p1))) (eE := E1) (H' := (mkH [])) (by kernel_rfl) ?_
 refine oS 5 (b := !(eqL a0 [])) (by kernel_rfl) (fun hb => ?_) (fun hb => ?_)
 ·refine oR 1 (p' := (atN 4 (ctl1 g45p1))) (eE := ((6, .str a0) :: (5, .bool true) :: E1)) (H' := (mkH [])) (by kernel_rfl) ?_
  refine oC (fun (x0_4 : Int) => .int .i64 x0_4) (atN 5 (ctl1 g45p1)) (fun x0_4 => ((7, .int .i64 x0_4) :: (6, .str a0) :: (5, .bool true) :: E1)) (fi := 83) (args := [.str a0]) (by kernel_rfl) (by kernel_rfl) (fun _ => by kernel_rfl) (fun r h => g83_ok k a0 r h) (fun _ => by kernel_rfl) (fun x0_4 hx0_4 => ?_)
  let E2 : Env := ((2, .bool (decide (x0_4 = (a0.length : Int)))) :: (11, .bool (decide (x0_4 = (a0.length : Int)))) :: (10, .bool (decide (x0_4 = (a0.length : Int)))) :: (9, .int .i64 (a0.length : Int)) :: (8, .str a0) :: (7, .int .i64 x0_4) :: (6, .str a0) :: (5, .bool true) :: E1)
  refine oR 7 (p' := .fin) (eE := E2) (H' := (mkH [])) (by kernel_rfl) ?_
  exact oT (r := (decide (x0_4 = (a0.length : Int)))) (xs := [.bool (decide (x0_4 = (a0.length : Int)))]) (v := .bool (decide (x0_4 = (a0.length : Int)))) (by kernel_rfl) (by kernel_rfl) (by kernel_rfl) (.pures (by kernel_rfl)) (by kernel_rfl)
 ·let E3 : Env := ((2, .bool false) :: (11, .bool false) :: (10, .tuple []) :: (9, .tuple []) :: (8, .tuple []) :: (7, .tuple []) :: (6, .tuple []) :: (5, .bool false) :: E1)
  refine oR 9 (p' := .fin) (eE := E3) (H' := (mkH [])) (by kernel_rfl) ?_
  exact oT (r := false) (xs := [.bool false]) (v := .bool false) (by kernel_rfl) (by kernel_rfl) (by kernel_rfl) (.pures (by kernel_rfl)) (by kernel_rfl)
end
end Go.Proofs.Ytabhkocokojddaa.Am
set_option maxRecDepth 100000
set_option linter.unusedVariables false
namespace Go.Proofs.Ytabhkocokojddaa.Am
noncomputable section
open Go
def X36 : Fx Bool := ⟨Try.prog, cx, Try.f36, fun r => .bool r, 0, fun _ => H0, cxTi, cxOrd⟩
def g36c0 : List Nat := [49, 56, 52, 52, 54, 55, 52, 52, 48, 55, 51, 55, 48, 57, 53, 53, 49, 54, 49, 54]
def g36c1 : List Nat := [34, 97, 92, 120, 123, 101, 57, 125, 34]
def g36c2 : List Nat := [49, 46, 53, 101, 45, 51]
def g36p0 : Pt := nav [0] (bodyAt Try.f36)
def g36p1 : Pt := nav [0, 0, 0] g36p0
def g36p2 : Pt := nav [0, 0, 0] g36p1
def g36p3 : Pt := nav [0, 0, 0] g36p2
def g36p4 : Pt := nav [0, 0, 0] g36p3
def g36p5 : Pt := nav [0, 0, 0] g36p4
def g36p6 : Pt := nav [0, 0, 0] g36p5
def g36 (k : Nat)  : Option Bool :=
 (g37 k ([49, 54, 35, 70, 70] : List Nat)).bind fun x0_0 => (g37 k g36c0).bind fun x1_0 => (g39 k ([36, 92, 110] : List Nat)).bind fun x2_0 => (g43 k g36c1).bind fun x3_0 => (g41 k ([92, 49, 48, 49] : List Nat) (0 : Int)).bind fun x4_0 => if (decide (x0_0.2 = 0)) then (if (decide (x0_0.1 = 255)) then (if (decide (x1_0.2 = 6)) then (if (decide (x2_0.2 = 0)) then (if (decide (x2_0.1 = 10)) then (if (decide (x3_0.2 = 0)) then (if (decide ((x3_0.1.length : Int) = 2)) then ((nthL x3_0.1 1).bind fun x5_29 => if (decide (x5_29 = 233)) then (if (decide (x4_0.1 = 65)) then (if (decide (x4_0.2 = 4)) then ((g45 k g36c2).bind fun x5_42 => if x5_42 then ((g45 k ([49, 46] : List Nat)).bind fun x5_45 => some (!x5_45)) else (some false)) else (some false)) else (some false)) else (some false)) else (some false)) else (some false)) else (some false)) else (some false)) else (some false)) else (some false)) else (some false)
theorem g36_ok (k : Nat)  (r : Bool) (h : g36 k  = some r) : PureOk Try.prog 36 [] (.bool r) := by
 refine pure_of X36 (fun _ => rfl) Try.func36 (by decide +kernel) (by kernel_rfl) (t := g36 k ) ?_ h
 unfold g36
 refine oE (eE := []) (by kernel_rfl) ?_
 refine oR 6 (p' := (atN 0 (ctl1 g36p1))) (eE := [(0, .bool false)]) (H' := (mkH [])) (by kernel_rfl) ?_
 refine oC (fun (x0_0 : (Int × Int)) => .tuple [.int .u64 x0_0.1, .int .i64 x0_0.2]) (atN 1 (ctl1 g36p1)) (fun x0_0 => [(12, .tuple [.int .u64 x0_0.1, .int .i64 x0_0.2]), (0, .bool false)]) (fi := 37) (args := [.str [49, 54, 35, 70, 70]]) (by kernel_rfl) (by kernel_rfl) (fun _ => by kernel_rfl) (fun r h => g37_ok k ([49, 54, 35, 70, 70] : List Nat) r h) (fun _ => by kernel_rfl) (fun x0_0 hx0_0 => ?_)
 let E1 : Env := [(2, .int .i64 x0_0.2), (1, .int .u64 x0_0.1), (14, .int .i64 x0_0.2), (13, .int .u64 x0_0.1), (11, .tuple [.int .u64 x0_0.1, .int .i64 x0_0.2]), (12, .tuple [.int .u64 x0_0.1, .int .i64 x0_0.2]), (0, .bool false)]
 refine oR 8 (p' := (atN 0 (ctl1 g36p2))) (eE := E1) (H' := (mkH [])) (by kernel_rfl) ?_
 refine oC (fun (x1_0 : (Int × Int)) => .tuple [.int .u64 x1_0.1, .int .i64 x1_0.2]) (atN 1 (ctl1 g36p2)) (fun x1_0 => ((16, .tuple [.int .u64 x1_0.1, .int .i64 x1_0.2]) :: E1)) (fi := 37) (args := [.str g36c0]) (by kernel_rfl) (by kernel_rfl) (fun _ => by kernel_rfl) (fun r h => g37_ok k g36c0 r h) (fun _ => by kernel_rfl) (fun x1_0 hx1_0 => ?_)
 let E2 : Env := ((4, .int .i64 x1_0.2) :: (3, .int .u64 x1_0.1) :: (18, .int .i64 x1_0.2) :: (17, .int .u64 x1_0.1) :: (15, .tuple [.int .u64 x1_0.1, .int .i64 x1_0.2]) :: (16, .tuple [.int .u64 x1_0.1, .int .i64 x1_0.2]) :: E1)
 refine oR 7 (p' := g36p3) (eE := E2) (H' := (mkH [])) (by kernel_rfl) ?_
 refine oK [1, 2, 4] (eE := [(1, .int .u64 x0_0.1), (2, .int .i64 x0_0.2), (4, .int .i64 x1_0.2)]) (by kernel_rfl) ?_
 refine oR 1 (p' := (atN 0 (ctl1 g36p3))) (eE := [(1, .int .u64 x0_0.1), (2, .int .i64 x0_0.2), (4, .int .i64 x1_0.2)]) (H' := (mkH [])) (by kernel_rfl) ?_
 refine oC (fun (x2_0 : (Int × Int)) => .tuple [.int .i64 x2_0.1, .int .i64 x2_0.2]) (atN 1 (ctl1 g36p3)) (fun x2_0 => [(20, .tuple [.int .i64 x2_0.1, .int .i64 x2_0.2]), (1, .int .u64 x0_0.1), (2, .int .i64 x0_0.2), (4, .int .i64 x1_0.2)]) (fi := 39) (args := [.str [36, 92, 110]]) (by kernel_rfl) (by kernel_rfl) (fun _ => by kernel_rfl) (fun r h => g39_ok k ([36, 92, 110] : List Nat) r h) (fun _ => by kernel_rfl) (fun x2_0 hx2_0 => ?_)
 let E3 : Env := [(6, .int .i64 x2_0.2), (5, .int .i64 x2_0.1), (22, .int .i64 x2_0.2), (21, .int .i64 x2_0.1), (19, .tuple [.int .i64 x2_0.1, .int .i64 x2_0.2]), (20, .tuple [.int .i64 x2_0.1, .int .i64 x2_0.2]), (1, .int .u64 x0_0.1), (2, .int .i64 x0_0.2), (4, .int .i64 x1_0.2)]
 refine oR 8 (p' := (atN 0 (ctl1 g36p4))) (eE := E3) (H' := (mkH [])) (by kernel_rfl) ?_
 refine oC (fun (x3_0 : ((List Int) × Int)) => .tuple [.vec (x3_0.1).length 1 ((x3_0.1).flatMap e3), .int .i64 x3_0.2]) (atN 1 (ctl1 g36p4)) (fun x3_0 => ((24, .tuple [.vec (x3_0.1).length 1 ((x3_0.1).flatMap e3), .int .i64 x3_0.2]) :: E3)) (fi := 43) (args := [.str g36c1]) (by kernel_rfl) (by kernel_rfl) (fun _ => by kernel_rfl) (fun r h => g43_ok k g36c1 r h) (fun _ => by kernel_rfl) (fun x3_0 hx3_0 => ?_)
 let E4 : Env := ((8, .int .i64 x3_0.2) :: (7, .vec (x3_0.1).length 1 ((x3_0.1).flatMap e3)) :: (26, .int .i64 x3_0.2) :: (25, .vec (x3_0.1).length 1 ((x3_0.1).flatMap e3)) :: (23, .tuple [.vec (x3_0.1).length 1 ((x3_0.1).flatMap e3), .int .i64 x3_0.2]) :: (24, .tuple [.vec (x3_0.1).length 1 ((x3_0.1).flatMap e3), .int .i64 x3_0.2]) :: E3)
 refine oR 7 (p' := g36p5) (eE := E4) (H' := (mkH [])) (by kernel_rfl) ?_
 refine oK [1, 2, 4, 5, 6, 7, 8] (eE := [(1, .int .u64 x0_0.1), (2, .int .i64 x0_0.2), (4, .int .i64 x1_0.2), (5, .int .i64 x2_0.1), (6, .int .i64 x2_0.2), (7, .vec (x3_0.1).length 1 ((x3_0.1).flatMap e3)), (8, .int .i64 x3_0.2)]) (by kernel_rfl) ?_
 let E5 : Env := [(1, .int .u64 x0_0.1), (2, .int .i64 x0_0.2), (4, .int .i64 x1_0.2), (5, .int .i64 x2_0.1), (6, .int .i64 x2_0.2), (7, .vec (x3_0.1).length 1 ((x3_0.1).flatMap e3)), (8, .int .i64 x3_0.2)]
 refine oR 1 (p' := (atN 0 (ctl1 g36p5))) (eE := E5) (H' := (mkH [])) (by kernel_rfl) ?_
 refine oC (fun (x4_0 : (Int × Int)) => .tuple [.int .i64 x4_0.1, .int .i64 x4_0.2]) (atN 1 (ctl1 g36p5)) (fun x4_0 => ((28, .tuple [.int .i64 x4_0.1, .int .i64 x4_0.2]) :: E5)) (fi := 41) (args := [.str [92, 49, 48, 49], .int .i64 0]) (by kernel_rfl) (by kernel_rfl) (fun _ => by kernel_rfl) (fun r h => g41_ok k ([92, 49, 48, 49] : List Nat) (0 : Int) r h) (fun _ => by kernel_rfl) (fun x4_0 hx4_0 => ?_)
 let E6 : Env := ((33, .bool (decide (x0_0.2 = 0))) :: (32, .bool (decide (x0_0.2 = 0))) :: (31, .int .i64 x0_0.2) :: (10, .int .i64 x4_0.2) :: (9, .int .i64 x4_0.1) :: (30, .int .i64 x4_0.2) :: (29, .int .i64 x4_0.1) :: (27, .tuple [.int .i64 x4_0.1, .int .i64 x4_0.2]) :: (28, .tuple [.int .i64 x4_0.1, .int .i64 x4_0.2]) :: E5)
 refine oR 11 (p' := (atN 3 (ctl1 g36p6))) (eE := E6) (H' := (mkH [])) (by kernel_rfl) ?_
 refine oS 33 (b := decide (x0_0.2 = 0)) (by kernel_rfl) (fun hb => ?_) (fun hb => ?_)
 ·let E7 : Env := ((37, .bool (decide (x0_0.1 = 255))) :: (36, .bool (decide (x0_0.1 = 255))) :: (35, .bool (decide (x0_0.1 = 255))) :: (34, .int .u64 x0_0.1) :: (33, .bool true) :: E6)
  refine oR 4 (p' := (atN 7 (ctl1 g36p6))) (eE := E7) (H' := (mkH [])) (by kernel_rfl) ?_
  refine oS 37 (b := decide (x0_0.1 = 255)) (by kernel_rfl) (fun hb => ?_) (fun hb => ?_)
  ·let E8 : Env := ((41, .bool (decide (x1_0.2 = 6))) :: (40, .bool (decide (x1_0.2 = 6))) :: (39, .bool (decide (x1_0.2 = 6))) :: (38, .int .i64 x1_0.2) :: (37, .bool true) :: E7)
   refine oR 4 (p' := (atN 11 (ctl1 g36p6))) (eE := E8) (H' := (mkH [])) (by kernel_rfl) ?_
   refine oS 41 (b := decide (x1_0.2 = 6)) (by kernel_rfl) (fun hb => ?_) (fun hb => ?_)
   ·let E9 : Env := ((45, .bool (decide (x2_0.2 = 0))) :: (44, .bool (decide (x2_0.2 = 0))) :: (43, .bool (decide (x2_0.2 = 0))) :: (42, .int .i64 x2_0.2) :: (41, .bool true) :: E8)
    refine oR 4 (p' := (atN 15 (ctl1 g36p6))) (eE := E9) (H' := (mkH [])) (by kernel_rfl) ?_
    refine oS 45 (b := decide (x2_0.2 = 0)) (by kernel_rfl) (fun hb => ?_) (fun hb => ?_)
    ·let E10 : Env := ((49, .bool (decide (x2_0.1 = 10))) :: (48, .bool (decide (x2_0.1 = 10))) :: (47, .bool (decide (x2_0.1 = 10))) :: (46, .int .i64 x2_0.1) :: (45, .bool true) :: E9)
     refine oR 4 (p' := (atN 19 (ctl1 g36p6))) (eE := E10) (H' := (mkH [])) (by kernel_rfl) ?_
     refine oS 49 (b := decide (x2_0.1 = 10)) (by kernel_rfl) (fun hb => ?_) (fun hb => ?_)
     ·let E11 : Env := ((53, .bool (decide (x3_0.2 = 0))) :: (52, .bool (decide (x3_0.2 = 0))) :: (51, .bool (decide (x3_0.2 = 0))) :: (50, .int .i64 x3_0.2) :: (49, .bool true) :: E10)
      refine oR 4 (p' := (atN 23 (ctl1 g36p6))) (eE := E11) (H' := (mkH [])) (by kernel_rfl) ?_
      refine oS 53 (b := decide (x3_0.2 = 0)) (by kernel_rfl) (fun hb => ?_) (fun hb => ?_)
      ·let E12 : Env := ((58, .bool (decide ((x3_0.1.length : Int) = 2))) :: (57, .bool (decide ((x3_0.1.length : Int) = 2))) :: (56, .bool (decide ((x3_0.1.length : Int) = 2))) :: (55, .int .i64 (x3_0.1.length : Int)) :: (54, .vec (x3_0.1).length 1 ((x3_0.1).flatMap e3)) :: (53, .bool true) :: E11)
       refine oR 5 (p' := (atN 28 (ctl1 g36p6))) (eE := E12) (H' := (mkH [])) (by kernel_rfl) ?_
       refine oS 58 (b := decide ((x3_0.1.length : Int) = 2)) (by kernel_rfl) (fun hb => ?_) (fun hb => ?_)
       ·refine oR 1 (p' := (atN 29 (ctl1 g36p6))) (eE := ((59, .vec (x3_0.1).length 1 ((x3_0.1).flatMap e3)) :: (58, .bool true) :: E12)) (H' := (mkH [])) (by kernel_rfl) ?_
        refine oH (fun (x5_29 : Int) => (.vptr [.int .i64 x5_29], (mkH []))) (atN 30 (ctl1 g36p6)) (fun x5_29 => ((60, .vptr [.int .i64 x5_29]) :: (59, .vec (x3_0.1).length 1 ((x3_0.1).flatMap e3)) :: (58, .bool true) :: E12)) (vidxH (sz := 1) e3_len (by kernel_rfl)) (fun _ => by kernel_rfl) (fun x5_29 hx5_29 => ?_)
        let E13 : Env := ((64, .bool (decide (x5_29 = 233))) :: (63, .bool (decide (x5_29 = 233))) :: (62, .bool (decide (x5_29 = 233))) :: (61, .int .i64 x5_29) :: (60, .vptr [.int .i64 x5_29]) :: (59, .vec (x3_0.1).length 1 ((x3_0.1).flatMap e3)) :: (58, .bool true) :: E12)
        refine oR 4 (p' := (atN 34 (ctl1 g36p6))) (eE := E13) (H' := (mkH [])) (by kernel_rfl) ?_
        refine oS 64 (b := decide (x5_29 = 233)) (by kernel_rfl) (fun hb => ?_) (fun hb => ?_)
        ·let E14 : Env := ((68, .bool (decide (x4_0.1 = 65))) :: (67, .bool (decide (x4_0.1 = 65))) :: (66, .bool (decide (x4_0.1 = 65))) :: (65, .int .i64 x4_0.1) :: (64, .bool true) :: E13)
         refine oR 4 (p' := (atN 38 (ctl1 g36p6))) (eE := E14) (H' := (mkH [])) (by kernel_rfl) ?_
         refine oS 68 (b := decide (x4_0.1 = 65)) (by kernel_rfl) (fun hb => ?_) (fun hb => ?_)
         ·let E15 : Env := ((72, .bool (decide (x4_0.2 = 4))) :: (71, .bool (decide (x4_0.2 = 4))) :: (70, .bool (decide (x4_0.2 = 4))) :: (69, .int .i64 x4_0.2) :: (68, .bool true) :: E14)
          refine oR 4 (p' := (atN 42 (ctl1 g36p6))) (eE := E15) (H' := (mkH [])) (by kernel_rfl) ?_
          refine oS 72 (b := decide (x4_0.2 = 4)) (by kernel_rfl) (fun hb => ?_) (fun hb => ?_)
          ·refine oC (fun (x5_42 : Bool) => .bool x5_42) (atN 43 (ctl1 g36p6)) (fun x5_42 => ((73, .bool x5_42) :: (72, .bool true) :: E15)) (fi := 45) (args := [.str g36c2]) (by kernel_rfl) (by kernel_rfl) (fun _ => by kernel_rfl) (fun r h => g45_ok k g36c2 r h) (fun _ => by kernel_rfl) (fun x5_42 hx5_42 => ?_)
           refine oR 2 (p' := (atN 45 (ctl1 g36p6))) (eE := ((75, .bool x5_42) :: (74, .bool x5_42) :: (73, .bool x5_42) :: (72, .bool true) :: E15)) (H' := (mkH [])) (by kernel_rfl) ?_
           refine oS 75 (b := x5_42) (by kernel_rfl) (fun hb => ?_) (fun hb => ?_)
           ·refine oC (fun (x5_45 : Bool) => .bool x5_45) (atN 46 (ctl1 g36p6)) (fun x5_45 => ((76, .bool x5_45) :: (75, .bool true) :: (75, .bool x5_42) :: (74, .bool x5_42) :: (73, .bool x5_42) :: (72, .bool true) :: E15)) (fi := 45) (args := [.str [49, 46]]) (by kernel_rfl) (by kernel_rfl) (fun _ => by kernel_rfl) (fun r h => g45_ok k ([49, 46] : List Nat) r h) (fun _ => by kernel_rfl) (fun x5_45 hx5_45 => ?_)
            let E16 : Env := ((0, .bool (!x5_45)) :: (78, .bool (!x5_45)) :: (77, .bool (!x5_45)) :: (76, .bool x5_45) :: (75, .bool true) :: (75, .bool x5_42) :: (74, .bool x5_42) :: (73, .bool x5_42) :: (72, .bool true) :: E15)
            refine oR 5 (p' := .fin) (eE := E16) (H' := (mkH [])) (by kernel_rfl) ?_
            exact oT (r := (!x5_45)) (xs := [.bool (!x5_45)]) (v := .bool (!x5_45)) (by kernel_rfl) (by kernel_rfl) (by kernel_rfl) (.pures (by kernel_rfl)) (by kernel_rfl)
           ·let E17 : Env := ((0, .bool false) :: (78, .bool false) :: (77, .tuple []) :: (76, .tuple []) :: (75, .bool false) :: (75, .bool x5_42) :: (74, .bool x5_42) :: (73, .bool x5_42) :: (72, .bool true) :: E15)
            refine oR 6 (p' := .fin) (eE := E17) (H' := (mkH [])) (by kernel_rfl) ?_
            exact oT (r := false) (xs := [.bool false]) (v := .bool false) (by kernel_rfl) (by kernel_rfl) (by kernel_rfl) (.pures (by kernel_rfl)) (by kernel_rfl)
          ·let E18 : Env := ((0, .bool false) :: (78, .bool false) :: (77, .tuple []) :: (76, .tuple []) :: (75, .bool false) :: (74, .bool false) :: (73, .tuple []) :: (72, .bool false) :: E15)
           refine oR 9 (p' := .fin) (eE := E18) (H' := (mkH [])) (by kernel_rfl) ?_
           exact oT (r := false) (xs := [.bool false]) (v := .bool false) (by kernel_rfl) (by kernel_rfl) (by kernel_rfl) (.pures (by kernel_rfl)) (by kernel_rfl)
         ·let E19 : Env := ((0, .bool false) :: (78, .bool false) :: (77, .tuple []) :: (76, .tuple []) :: (75, .bool false) :: (74, .bool false) :: (73, .tuple []) :: (72, .bool false) :: (71, .bool false) :: (70, .tuple []) :: (69, .tuple []) :: (68, .bool false) :: E14)
          refine oR 13 (p' := .fin) (eE := E19) (H' := (mkH [])) (by kernel_rfl) ?_
          exact oT (r := false) (xs := [.bool false]) (v := .bool false) (by kernel_rfl) (by kernel_rfl) (by kernel_rfl) (.pures (by kernel_rfl)) (by kernel_rfl)
        ·let E20 : Env := ((0, .bool false) :: (78, .bool false) :: (77, .tuple []) :: (76, .tuple []) :: (75, .bool false) :: (74, .bool false) :: (73, .tuple []) :: (72, .bool false) :: (71, .bool false) :: (70, .tuple []) :: (69, .tuple []) :: (68, .bool false) :: (67, .bool false) :: (66, .tuple []) :: (65, .tuple []) :: (64, .bool false) :: E13)
         refine oR 17 (p' := .fin) (eE := E20) (H' := (mkH [])) (by kernel_rfl) ?_
         exact oT (r := false) (xs := [.bool false]) (v := .bool false) (by kernel_rfl) (by kernel_rfl) (by kernel_rfl) (.pures (by kernel_rfl)) (by kernel_rfl)
       ·let E21 : Env := ((0, .bool false) :: (78, .bool false) :: (77, .tuple []) :: (76, .tuple []) :: (75, .bool false) :: (74, .bool false) :: (73, .tuple []) :: (72, .bool false) :: (71, .bool false) :: (70, .tuple []) :: (69, .tuple []) :: (68, .bool false) :: (67, .bool false) :: (66, .tuple []) :: (65, .tuple []) :: (64, .bool false) :: (63, .bool false) :: (62, .tuple []) :: (61, .tuple []) :: (60, .tuple []) :: (59, .tuple []) :: (58, .bool false) :: E12)
        refine oR 23 (p' := .fin) (eE := E21) (H' := (mkH [])) (by kernel_rfl) ?_
        exact oT (r := false) (xs := [.bool false]) (v := .bool false) (by kernel_rfl) (by kernel_rfl) (by kernel_rfl) (.pures (by kernel_rfl)) (by kernel_rfl)
      ·let E22 : Env := ((0, .bool false) :: (78, .bool false) :: (77, .tuple []) :: (76, .tuple []) :: (75, .bool false) :: (74, .bool false) :: (73, .tuple []) :: (72, .bool false) :: (71, .bool false) :: (70, .tuple []) :: (69, .tuple []) :: (68, .bool false) :: (67, .bool false) :: (66, .tuple []) :: (65, .tuple []) :: (64, .bool false) :: (63, .bool false) :: (62, .tuple []) :: (61, .tuple []) :: (60, .tuple []) :: (59, .tuple []) :: (58, .bool false) :: (57, .bool false) :: (56, .tuple []) :: (55, .tuple []) :: (54, .tuple []) :: (53, .bool false) :: E11)
       refine oR 28 (p' := .fin) (eE := E22) (H' := (mkH [])) (by kernel_rfl) ?_
       exact oT (r := false) (xs := [.bool false]) (v := .bool false) (by kernel_rfl) (by kernel_rfl) (by kernel_rfl) (.pures (by kernel_rfl)) (by kernel_rfl)
     ·let E23 : Env := ((0, .bool false) :: (78, .bool false) :: (77, .tuple []) :: (76, .tuple []) :: (75, .bool false) :: (74, .bool false) :: (73, .tuple []) :: (72, .bool false) :: (71, .bool false) :: (70, .tuple []) :: (69, .tuple []) :: (68, .bool false) :: (67, .bool false) :: (66, .tuple []) :: (65, .tuple []) :: (64, .bool false) :: (63, .bool false) :: (62, .tuple []) :: (61, .tuple []) :: (60, .tuple []) :: (59, .tuple []) :: (58, .bool false) :: (57, .bool false) :: (56, .tuple []) :: (55, .tuple []) :: (54, .tuple []) :: (53, .bool false) :: (52, .bool false) :: (51, .tuple []) :: (50, .tuple []) :: (49, .bool false) :: E10)
      refine oR 32 (p' := .fin) (eE := E23) (H' := (mkH [])) (by kernel_rfl) ?_
      exact oT (r := false) (xs := [.bool false]) (v := .bool false) (by kernel_rfl) (by kernel_rfl) (by kernel_rfl) (.pures (by kernel_rfl)) (by kernel_rfl)
    ·let E24 : Env := ((0, .bool false) :: (78, .bool false) :: (77, .tuple []) :: (76, .tuple []) :: (75, .bool false) :: (74, .bool false) :: (73, .tuple []) :: (72, .bool false) :: (71, .bool false) :: (70, .tuple []) :: (69, .tuple []) :: (68, .bool false) :: (67, .bool false) :: (66, .tuple []) :: (65, .tuple []) :: (64, .bool false) :: (63, .bool false) :: (62, .tuple []) :: (61, .tuple []) :: (60, .tuple []) :: (59, .tuple []) :: (58, .bool false) :: (57, .bool false) :: (56, .tuple []) :: (55, .tuple []) :: (54, .tuple []) :: (53, .bool false) :: (52, .bool false) :: (51, .tuple []) :: (50, .tuple []) :: (49, .bool false) :: (48, .bool false) :: (47, .tuple []) :: (46, .tuple []) :: (45, .bool false) :: E9)
     refine oR 36 (p' := .fin) (eE := E24) (H' := (mkH [])) (by kernel_rfl) ?_
     exact oT (r := false) (xs := [.bool false]) (v := .bool false) (by kernel_rfl) (by kernel_rfl) (by kernel_rfl) (.pures (by kernel_rfl)) (by kernel_rfl)
   ·let E25 : Env := ((0, .bool false) :: (78, .bool false) :: (77, .tuple []) :: (76, .tuple []) :: (75, .bool false) :: (74, .bool false) :: (73, .tuple []) :: (72, .bool false) :: (71, .bool false) :: (70, .tuple []) :: (69, .tuple []) :: (68, .bool false) :: (67, .bool false) :: (66, .tuple []) :: (65, .tuple []) :: (64, .bool false) :: (63, .bool false) :: (62, .tuple []) :: (61, .tuple []) :: (60, .tuple []) :: (59, .tuple []) :: (58, .bool false) :: (57, .bool false) :: (56, .tuple []) :: (55, .tuple []) :: (54, .tuple []) :: (53, .bool false) :: (52, .bool false) :: (51, .tuple []) :: (50, .tuple []) :: (49, .bool false) :: (48, .bool false) :: (47, .tuple []) :: (46, .tuple []) :: (45, .bool false) :: (44, .bool false) :: (43, .tuple []) :: (42, .tuple []) :: (41, .bool false) :: E8)
    refine oR 40 (p' := .fin) (eE := E25) (H' := (mkH [])) (by kernel_rfl) ?_
    exact oT (r := false) (xs := [.bool false]) (v := .bool false) (by kernel_rfl) (by kernel_rfl) (by kernel_rfl) (.pures (by kernel_rfl)) (by kernel_rfl)
  ·let E26 : Env := ((0, .bool false) :: (78, .bool false) :: (77, .tuple []) :: (76, .tuple []) :: (75, .bool false) :: (74, .bool false) :: (73, .tuple []) :: (72, .bool false) :: (71, .bool false) :: (70, .tuple []) :: (69, .tuple []) :: (68, .bool false) :: (67, .bool false) :: (66, .tuple []) :: (65, .tuple []) :: (64, .bool false) :: (63, .bool false) :: (62, .tuple []) :: (61, .tuple []) :: (60, .tuple []) :: (59, .tuple []) :: (58, .bool false) :: (57, .bool false) :: (56, .tuple []) :: (55, .tuple []) :: (54, .tuple []) :: (53, .bool false) :: (52, .bool false) :: (51, .tuple []) :: (50, .tuple []) :: (49, .bool false) :: (48, .bool false) :: (47, .tuple []) :: (46, .tuple []) :: (45, .bool false) :: (44, .bool false) :: (43, .tuple []) :: (42, .tuple []) :: (41, .bool false) :: (40, .bool false) :: (39, .tuple []) :: (38, .tuple []) :: (37, .bool false) :: E7)
   refine oR 44 (p' := .fin) (eE := E26) (H' := (mkH [])) (by kernel_rfl) ?_
   exact oT (r := false) (xs := [.bool false]) (v := .bool false) (by kernel_rfl) (by kernel_rfl) (by kernel_rfl) (.pures (by kernel_rfl)) (by kernel_rfl)
 ·let E27 : Env := ((0, .bool false) :: (78, .bool false) :: (77, .tuple []) :: (76, .tuple []) :: (75, .bool false) :: (74, .bool false) :: (73, .tuple []) :: (72, .bool false) :: (71, .bool false) :: (70, .tuple []) :: (69, .tuple []) :: (68, .bool false) :: (67, .bool false) :: (66, .tuple []) :: (65, .tuple []) :: (64, .bool false) :: (63, .bool false) :: (62, .tuple []) :: (61, .tuple []) :: (60, .tuple []) :: (59, .tuple []) :: (58, .bool false) :: (57, .bool false) :: (56, .tuple []) :: (55, .tuple []) :: (54, .tuple []) :: (53, .bool false) :: (52, .bool false) :: (51, .tuple []) :: (50, .tuple []) :: (49, .bool false) :: (48, .bool false) :: (47, .tuple []) :: (46, .tuple []) :: (45, .bool false) :: (44, .bool false) :: (43, .tuple []) :: (42, .tuple []) :: (41, .bool false) :: (40, .bool false) :: (39, .tuple []) :: (38, .tuple []) :: (37, .bool false) :: (36, .bool false) :: (35, .tuple []) :: (34, .tuple []) :: (33, .bool false) :: E6)
  refine oR 48 (p' := .fin) (eE := E27) (H' := (mkH [])) (by kernel_rfl) ?_
  exact oT (r := false) (xs := [.bool false]) (v := .bool false) (by kernel_rfl) (by kernel_rfl) (by kernel_rfl) (.pures (by kernel_rfl)) (by kernel_rfl)
end
end Go.Proofs.Ytabhkocokojddaa.Am
set_option maxRecDepth 100000
set_option linter.unusedVariables false
namespace Go.Proofs.Ytabhkocokojddaa.Am
noncomputable section
open Go
def X46 : Fx Bool := ⟨Try.prog, cx, Try.f46, fun r => .bool r, 0, fun _ => H0, cxTi, cxOrd⟩
def g46p0 : Pt := nav [0] (bodyAt Try.f46)
def g46p1 : Pt := nav [0, 0, 0] g46p0
def g46 (k : Nat) (a0 : (List Nat)) : Option Bool :=
 if (!(eqL a0 [])) then ((g84 k a0 (0 : Int)).bind fun x0_4 => some (decide (x0_4 = (a0.length : Int)))) else (some false)
theorem g46_ok (k : Nat) (a0 : (List Nat)) (r : Bool) (h : g46 k a0 = some r) : PureOk Try.prog 46 [.str a0] (.bool r) := by
 refine pure_of X46 (fun _ => rfl) Try.func46 (by decide +kernel) (by kernel_rfl) (t := g46 k a0) ?_ h
 unfold g46
 refine oE (eE := [(0, .str a0)]) (by kernel_rfl) ?_
 let E1 : Env := [(5, .bool (!(eqL a0 []))), (4, .bool (!(eqL a0 []))), (3, .str a0), (2, .bool false), (0, .str a0)]
 refine oR 9 (p' := (atN 3 (ctl1 g46p1))) (eE := E1) (H' := (mkH [])) (by kernel_rfl) ?_
 refine oS 5 (b := !(eqL a0 [])) (by kernel_rfl) (fun hb => ?_) (fun hb => ?_)
 ·refine oR 1 (p' := (atN 4 (ctl1 g46p1))) (eE := ((6, .str a0) :: (5, .bool true) :: E1)) (H' := (mkH [])) (by kernel_rfl) ?_
  refine oC (fun (x0_4 : Int) => .int .i64 x0_4) (atN 5 (ctl1 g46p1)) (fun x0_4 => ((7, .int .i64 x0_4) :: (6, .str a0) :: (5, .bool true) :: E1)) (fi := 84) (args := [.str a0, .int .i64 0]) (by kernel_rfl) (by kernel_rfl) (fun _ => by kernel_rfl) (fun r h => g84_ok k a0 (0 : Int) r h) (fun _ => by kernel_rfl) (fun x0_4 hx0_4 => ?_)
  let E2 : Env := ((2, .bool (decide (x0_4 = (a0.length : Int)))) :: (11, .bool (decide (x0_4 = (a0.length : Int)))) :: (10, .bool (decide (x0_4 = (a0.length : Int)))) :: (9, .int .i64 (a0.length : Int)) :: (8, .str a0) :: (7, .int .i64 x0_4) :: (6, .str a0) :: (5, .bool true) :: E1)
  refine oR 7 (p' := .fin) (eE := E2) (H' := (mkH [])) (by kernel_rfl) ?_
  exact oT (r := (decide (x0_4 = (a0.length : Int)))) (xs := [.bool (decide (x0_4 = (a0.length : Int)))]) (v := .bool (decide (x0_4 = (a0.length : Int)))) (by kernel_rfl) (by kernel_rfl) (by kernel_rfl) (.pures (by kernel_rfl)) (by kernel_rfl)
 ·let E3 : Env := ((2, .bool false) :: (11, .bool false) :: (10, .tuple []) :: (9, .tuple []) :: (8, .tuple []) :: (7, .tuple []) :: (6, .tuple []) :: (5, .bool false) :: E1)
  refine oR 9 (p' := .fin) (eE := E3) (H' := (mkH [])) (by kernel_rfl) ?_
  exact oT (r := false) (xs := [.bool false]) (v := .bool false) (by kernel_rfl) (by kernel_rfl) (by kernel_rfl) (.pures (by kernel_rfl)) (by kernel_rfl)
end
end Go.Proofs.Ytabhkocokojddaa.Am
set_option maxRecDepth 100000
set_option linter.unusedVariables false
set_option linter.unusedSimpArgs false
namespace Go.Proofs.Ytabhkocokojddaa.Am
open Go
theorem told4 (k : Nat) : g36 (k + 60) = some true := by kernel_rfl
def floN (s : List Nat) : Bool := !(eqL s []) && decide (partN s = s.length)
theorem Float_at {k : Nat} {s : List Nat} (hk : s.length < k) (hs : By s) (hl : Sz s) : g45 k s = some (floN s) := by
 unfold g45 floN
 cases eqL s [] with
 | true => rfl
 | false =>
  refine iT rfl ?_
  refine bS (by (try simp (disch := omega) only [fwI]); exact part_at hk hs hl) ?_
  have : decide (((partN s : Nat) : Int) = (s.length : Int)) = decide (partN s = s.length) := by rw [Bool.eq_iff_iff]; simp; omega
  rw [this]; rfl
theorem rFloat_at {k : Nat} {s : List Nat} (hk : s.length < k) (hs : By s) (hl : Sz s) : g46 k s = some (floN s) := by
 unfold g46 floN
 cases eqL s [] with
 | true => rfl
 | false =>
  refine iT rfl ?_
  have rb := rbroken_at hk hs hl (a := 0) (Nat.zero_le _)
  rw [List.drop_zero] at rb
  have rb' : g84 k s 0 = some ((partN s : Nat) : Int) := rb
  refine bS (by (try simp (disch := omega) only [fwI]); exact rb') ?_
  have : decide (((partN s : Nat) : Int) = (s.length : Int)) = decide (partN s = s.length) := by rw [Bool.eq_iff_iff]; simp; omega
  rw [this]; rfl
end Go.Proofs.Ytabhkocokojddaa.Am
set_option maxRecDepth 100000
set_option linter.unusedVariables false
namespace Go.Proofs.Ytabhkocokojddaa.Am
noncomputable section
open Go
def X10 : Fx Bool := ⟨Try.prog, cx, Try.f10, fun r => .bool r, 0, fun _ => H0, cxTi, cxOrd⟩
def g10p0 : Pt := nav [0] (bodyAt Try.f10)
def g10p1 : Pt := nav [0, 0, 0, 0] g10p0
def g10p2 : Pt := nav [0, 0] g10p1
def g10p3 : Pt := nav [1, 0] g10p2
def g10p4 : Pt := nav [2, 0, 0] g10p2
def g10p6 : Pt := nav [0, 0, 0] g10p4
def g10p7 : Pt := nav [0, 0, 0] g10p6
def g10p8 : Pt := nav [0, 0, 0] g10p7
def g10p9 : Pt := nav [0, 0, 0] g10p8
def g10p10 : Pt := nav [0, 0, 0] g10p9
def g10p11 : Pt := nav [0, 0, 0] g10p10
def g10p12 : Pt := nav [0, 0, 0] g10p11
def g10p13 : Pt := nav [0, 0, 0, 0] g10p12
def g10p14 : Pt := nav [0, 0] g10p13
def g10p16 : Pt := nav [2, 0, 0, 0] g10p14
def g10p17 : Pt := nav [0, 0, 0, 0] g10p16
def g10p18 : Pt := nav [0, 0, 0] g10p17
def g10p19 : Pt := nav [0, 0] g10p18
def g10p20 : Pt := nav [1, 0, 0, 0, 0] g10p19
def g10p21 : Pt := nav [2, 0, 0] g10p19
def g10_l13 (k : Nat)  (x7_1 : ((List Int) × Int)) (x8_1 : ((List Int) × Int)) (n : Nat) : Int → Option Bool :=
 Nat.rec (motive := fun _ => Int → Option Bool) (fun _ => none) (fun _ ih => fun (y13_0 : Int) => if (decide (y13_0 < (x8_1.1.length : Int))) then ((nthL x7_1.1 y13_0).bind fun x10_2 => (nthL x8_1.1 y13_0).bind fun x10_6 => if (!decide (x10_2 = x10_6)) then (some false) else (ih (fW .i64 (y13_0 + 1)))) else ((g36 k).bind fun x11_0 => some x11_0)) n
theorem g10_l13_s (k : Nat)  (x7_1 : ((List Int) × Int)) (x8_1 : ((List Int) × Int)) (n : Nat) (y13_0 : Int) : g10_l13 k x7_1 x8_1 (n + 1) y13_0 = (if (decide (y13_0 < (x8_1.1.length : Int))) then ((nthL x7_1.1 y13_0).bind fun x10_2 => (nthL x8_1.1 y13_0).bind fun x10_6 => if (!decide (x10_2 = x10_6)) then (some false) else ((g10_l13 k x7_1 x8_1 n) (fW .i64 (y13_0 + 1)))) else ((g36 k).bind fun x11_0 => some x11_0)) := rfl
theorem g10_l13_ok (k : Nat)  (x7_1 : ((List Int) × Int)) (x8_1 : ((List Int) × Int))  : ∀ (n : Nat) (y13_0 : Int), Ok X10 g10p17 [(17, .vec (x7_1.1).length 1 ((x7_1.1).flatMap e3)), (19, .vec (x8_1.1).length 1 ((x8_1.1).flatMap e3)), (21, .int .i64 y13_0)] (mkH []) (g10_l13 k x7_1 x8_1 n y13_0)
 | 0, _ => ok_none
 | n + 1, y13_0 => by
  have ih := g10_l13_ok k x7_1 x8_1 n
  rw [g10_l13_s]
  refine ok_ent (p' := nav [0] g10p17) (by kernel_rfl) ?_
  let E17 : Env := [(118, .bool (decide (y13_0 < (x8_1.1.length : Int)))), (117, .int .i64 (x8_1.1.length : Int)), (116, .vec (x8_1.1).length 1 ((x8_1.1).flatMap e3)), (115, .int .i64 y13_0), (17, .vec (x7_1.1).length 1 ((x7_1.1).flatMap e3)), (19, .vec (x8_1.1).length 1 ((x8_1.1).flatMap e3)), (21, .int .i64 y13_0)]
  refine oR 8 (p' := g10p19) (eE := E17) (H' := (mkH [])) (by kernel_rfl) ?_
  refine oS 118 (b := decide (y13_0 < (x8_1.1.length : Int))) (by kernel_rfl) (fun hb => ?_) (fun hb => ?_)
  ·refine oR 5 (p' := g10p20) (eE := ((118, .bool true) :: E17)) (H' := (mkH [])) (by kernel_rfl) ?_
   refine ok_bind (fun x10_2 hx10_2 => ?_)
   refine ok_bind (fun x10_6 hx10_6 => ?_)
   let E18 : Env := [(122, .int .i64 y13_0), (121, .vec (x7_1.1).length 1 ((x7_1.1).flatMap e3)), (118, .bool true), (118, .bool (decide (y13_0 < (x8_1.1.length : Int)))), (117, .int .i64 (x8_1.1.length : Int)), (116, .vec (x8_1.1).length 1 ((x8_1.1).flatMap e3)), (115, .int .i64 y13_0), (17, .vec (x7_1.1).length 1 ((x7_1.1).flatMap e3)), (19, .vec (x8_1.1).length 1 ((x8_1.1).flatMap e3)), (21, .int .i64 y13_0)]
   let E19 : Env := ((127, .vptr [.int .i64 x10_6]) :: (126, .int .i64 y13_0) :: (125, .vec (x8_1.1).length 1 ((x8_1.1).flatMap e3)) :: (124, .int .i64 x10_2) :: (123, .vptr [.int .i64 x10_2]) :: E18)
   refine ok_draw (p' := nav [0] g10p20) (eE := ((129, .bool (!decide (x10_2 = x10_6))) :: (128, .int .i64 x10_6) :: E19)) (H' := (mkH [])) (hs := []) [(0, 0, 0), (0, 0, 0), (3, 0, 0), (7, 0, 0), (0, 0, 0), (0, 0, 0), (48, 0, 0), (112, 0, 0), (255, 0, 0)] (by kernel_rfl) (by kernel_rfl) (by kernel_rfl) (opsD_run 2 (l' := (opsAt g10p20).toList.drop 2) (eE := E18) (H' := (mkH [])) (hs := []) (by kernel_rfl) (opsD_chk (l' := (opsAt g10p20).toList.drop 3) (eE := ((123, .vptr [.int .i64 x10_2]) :: E18)) (hs := []) (x := x10_2) (fun (x10_2 : Int) => (.vptr [.int .i64 x10_2], (mkH []))) (vidxH (sz := 1) e3_len (by kernel_rfl)) hx10_2 (by kernel_rfl) (opsD_run 3 (l' := (opsAt g10p20).toList.drop 6) (eE := ((126, .int .i64 y13_0) :: (125, .vec (x8_1.1).length 1 ((x8_1.1).flatMap e3)) :: (124, .int .i64 x10_2) :: (123, .vptr [.int .i64 x10_2]) :: E18)) (H' := (mkH [])) (hs := []) (by kernel_rfl) (opsD_chk (l' := (opsAt g10p20).toList.drop 7) (eE := E19) (hs := []) (x := x10_6) (fun (x10_6 : Int) => (.vptr [.int .i64 x10_6], (mkH []))) (vidxH (sz := 1) e3_len (by kernel_rfl)) hx10_6 (by kernel_rfl) (opsD_run 2 (l' := (opsAt g10p20).toList.drop 9) (eE := ((129, .bool (!decide (x10_2 = x10_6))) :: (128, .int .i64 x10_6) :: E19)) (H' := (mkH [])) (hs := []) (by kernel_rfl) (.nil)))))) (by kernel_rfl) (by kernel_rfl) (by kernel_rfl) ?_
   refine oS 129 (b := !decide (x10_2 = x10_6)) (by kernel_rfl) (fun hb => ?_) (fun hb => ?_)
   ·refine oR 6 (p' := .fin) (eE := ((4, .bool false) :: (129, .bool true) :: (129, .bool (!decide (x10_2 = x10_6))) :: (128, .int .i64 x10_6) :: E19)) (H' := (mkH [])) (by kernel_rfl) ?_
    exact oT (r := false) (xs := [.bool false]) (v := .bool false) (by kernel_rfl) (by kernel_rfl) (by kernel_rfl) (.pures (by kernel_rfl)) (by kernel_rfl)
   ·let E20 : Env := ((21, .int .i64 (fW .i64 (y13_0 + 1))) :: (120, .int .i64 (fW .i64 (y13_0 + 1))) :: (119, .int .i64 y13_0) :: (129, .bool false) :: (129, .bool (!decide (x10_2 = x10_6))) :: (128, .int .i64 x10_6) :: E19)
    refine oR 7 (p' := g10p17) (eE := E20) (H' := (mkH [])) (by kernel_rfl) ?_
    refine oK [17, 19, 21] (eE := [(17, .vec (x7_1.1).length 1 ((x7_1.1).flatMap e3)), (19, .vec (x8_1.1).length 1 ((x8_1.1).flatMap e3)), (21, .int .i64 (fW .i64 (y13_0 + 1)))]) (by kernel_rfl) ?_
    exact ih (fW .i64 (y13_0 + 1))
  ·refine oR 4 (p' := (atN 0 (ctl1 g10p21))) (eE := ((118, .bool false) :: E17)) (H' := (mkH [])) (by kernel_rfl) ?_
   refine oC (fun (x11_0 : Bool) => .bool x11_0) (atN 1 (ctl1 g10p21)) (fun x11_0 => ((130, .bool x11_0) :: (118, .bool false) :: E17)) (fi := 36) (args := []) (by kernel_rfl) (by kernel_rfl) (fun _ => by kernel_rfl) (fun r h => g36_ok k  r h) (fun _ => by kernel_rfl) (fun x11_0 hx11_0 => ?_)
   refine oR 3 (p' := .fin) (eE := ((4, .bool x11_0) :: (130, .bool x11_0) :: (118, .bool false) :: E17)) (H' := (mkH [])) (by kernel_rfl) ?_
   exact oT (r := x11_0) (xs := [.bool x11_0]) (v := .bool x11_0) (by kernel_rfl) (by kernel_rfl) (by kernel_rfl) (.pures (by kernel_rfl)) (by kernel_rfl)
def g10 (k : Nat) (a0 : (List Nat)) (a1 : Int) : Option Bool :=
 if (decide (200 < (a0.length : Int))) then ((g36 k).bind fun x0_0 => some x0_0) else ((g37 k a0).bind fun x1_1 => (g38 k a0).bind fun x2_1 => (g39 k a0).bind fun x3_1 => (g40 k a0).bind fun x4_1 => (g41 k a0 a1).bind fun x5_2 => (g42 k a0 a1).bind fun x6_2 => (g43 k a0).bind fun x7_1 => (g44 k a0).bind fun x8_1 => jn (fun (z12 : Bool) => if z12 then (some false) else (g10_l13 k x7_1 x8_1 k 0)) (fun j12 => if (!decide (x1_1.1 = x2_1.1)) then (j12 true) else (if (!decide (x1_1.2 = x2_1.2)) then (j12 true) else (if (!decide (x3_1.1 = x4_1.1)) then (j12 true) else (if (!decide (x3_1.2 = x4_1.2)) then (j12 true) else (if (!decide (x5_2.1 = x6_2.1)) then (j12 true) else (if (!decide (x5_2.2 = x6_2.2)) then (j12 true) else (if (!decide (x7_1.2 = x8_1.2)) then (j12 true) else (if (!decide ((x7_1.1.length : Int) = (x8_1.1.length : Int))) then (j12 true) else ((g45 k a0).bind fun x9_42 => (g46 k a0).bind fun x9_44 => j12 (!(x9_42 == x9_44))))))))))))
theorem g10_ok (k : Nat) (a0 : (List Nat)) (a1 : Int) (r : Bool) (h : g10 k a0 a1 = some r) : PureOk Try.prog 10 [.str a0, .int .i64 a1] (.bool r) := by
 refine pure_of X10 (fun _ => rfl) Try.func10 (by decide +kernel) (by kernel_rfl) (t := g10 k a0 a1) ?_ h
 unfold g10
 refine oE (eE := [(0, .str a0), (1, .int .i64 a1)]) (by kernel_rfl) ?_
 let E1 : Env := [(24, .bool (decide (200 < (a0.length : Int)))), (23, .int .i64 (a0.length : Int)), (22, .str a0), (4, .bool false), (0, .str a0), (1, .int .i64 a1)]
 refine oR 11 (p' := g10p2) (eE := E1) (H' := (mkH [])) (by kernel_rfl) ?_
 refine oS 24 (b := decide (200 < (a0.length : Int))) (by kernel_rfl) (fun hb => ?_) (fun hb => ?_)
 ·refine oR 3 (p' := (atN 0 (ctl1 g10p3))) (eE := ((24, .bool true) :: E1)) (H' := (mkH [])) (by kernel_rfl) ?_
  refine oC (fun (x0_0 : Bool) => .bool x0_0) (atN 1 (ctl1 g10p3)) (fun x0_0 => ((25, .bool x0_0) :: (24, .bool true) :: E1)) (fi := 36) (args := []) (by kernel_rfl) (by kernel_rfl) (fun _ => by kernel_rfl) (fun r h => g36_ok k  r h) (fun _ => by kernel_rfl) (fun x0_0 hx0_0 => ?_)
  refine oR 3 (p' := .fin) (eE := ((4, .bool x0_0) :: (25, .bool x0_0) :: (24, .bool true) :: E1)) (H' := (mkH [])) (by kernel_rfl) ?_
  exact oT (r := x0_0) (xs := [.bool x0_0]) (v := .bool x0_0) (by kernel_rfl) (by kernel_rfl) (by kernel_rfl) (.pures (by kernel_rfl)) (by kernel_rfl)
 ·refine oR 5 (p' := (atN 1 (ctl1 g10p4))) (eE := ((27, .str a0) :: (24, .bool false) :: E1)) (H' := (mkH [])) (by kernel_rfl) ?_
  refine oC (fun (x1_1 : (Int × Int)) => .tuple [.int .u64 x1_1.1, .int .i64 x1_1.2]) (atN 2 (ctl1 g10p4)) (fun x1_1 => ((28, .tuple [.int .u64 x1_1.1, .int .i64 x1_1.2]) :: (27, .str a0) :: (24, .bool false) :: E1)) (fi := 37) (args := [.str a0]) (by kernel_rfl) (by kernel_rfl) (fun _ => by kernel_rfl) (fun r h => g37_ok k a0 r h) (fun _ => by kernel_rfl) (fun x1_1 hx1_1 => ?_)
  let E2 : Env := ((6, .int .i64 x1_1.2) :: (5, .int .u64 x1_1.1) :: (30, .int .i64 x1_1.2) :: (29, .int .u64 x1_1.1) :: (26, .tuple [.int .u64 x1_1.1, .int .i64 x1_1.2]) :: (28, .tuple [.int .u64 x1_1.1, .int .i64 x1_1.2]) :: (27, .str a0) :: (24, .bool false) :: E1)
  refine oR 7 (p' := g10p6) (eE := E2) (H' := (mkH [])) (by kernel_rfl) ?_
  refine oK [0, 1, 5, 6] (eE := [(0, .str a0), (1, .int .i64 a1), (5, .int .u64 x1_1.1), (6, .int .i64 x1_1.2)]) (by kernel_rfl) ?_
  let E3 : Env := [(32, .str a0), (0, .str a0), (1, .int .i64 a1), (5, .int .u64 x1_1.1), (6, .int .i64 x1_1.2)]
  refine oR 2 (p' := (atN 1 (ctl1 g10p6))) (eE := E3) (H' := (mkH [])) (by kernel_rfl) ?_
  refine oC (fun (x2_1 : (Int × Int)) => .tuple [.int .u64 x2_1.1, .int .i64 x2_1.2]) (atN 2 (ctl1 g10p6)) (fun x2_1 => ((33, .tuple [.int .u64 x2_1.1, .int .i64 x2_1.2]) :: E3)) (fi := 38) (args := [.str a0]) (by kernel_rfl) (by kernel_rfl) (fun _ => by kernel_rfl) (fun r h => g38_ok k a0 r h) (fun _ => by kernel_rfl) (fun x2_1 hx2_1 => ?_)
  let E4 : Env := ((37, .str a0) :: (8, .int .i64 x2_1.2) :: (7, .int .u64 x2_1.1) :: (35, .int .i64 x2_1.2) :: (34, .int .u64 x2_1.1) :: (31, .tuple [.int .u64 x2_1.1, .int .i64 x2_1.2]) :: (33, .tuple [.int .u64 x2_1.1, .int .i64 x2_1.2]) :: E3)
  refine oR 9 (p' := (atN 1 (ctl1 g10p7))) (eE := E4) (H' := (mkH [])) (by kernel_rfl) ?_
  refine oC (fun (x3_1 : (Int × Int)) => .tuple [.int .i64 x3_1.1, .int .i64 x3_1.2]) (atN 2 (ctl1 g10p7)) (fun x3_1 => ((38, .tuple [.int .i64 x3_1.1, .int .i64 x3_1.2]) :: E4)) (fi := 39) (args := [.str a0]) (by kernel_rfl) (by kernel_rfl) (fun _ => by kernel_rfl) (fun r h => g39_ok k a0 r h) (fun _ => by kernel_rfl) (fun x3_1 hx3_1 => ?_)
  let E5 : Env := ((10, .int .i64 x3_1.2) :: (9, .int .i64 x3_1.1) :: (40, .int .i64 x3_1.2) :: (39, .int .i64 x3_1.1) :: (36, .tuple [.int .i64 x3_1.1, .int .i64 x3_1.2]) :: (38, .tuple [.int .i64 x3_1.1, .int .i64 x3_1.2]) :: E4)
  refine oR 7 (p' := g10p8) (eE := E5) (H' := (mkH [])) (by kernel_rfl) ?_
  refine oK [0, 1, 5, 6, 7, 8, 9, 10] (eE := [(0, .str a0), (1, .int .i64 a1), (5, .int .u64 x1_1.1), (6, .int .i64 x1_1.2), (7, .int .u64 x2_1.1), (8, .int .i64 x2_1.2), (9, .int .i64 x3_1.1), (10, .int .i64 x3_1.2)]) (by kernel_rfl) ?_
  let E6 : Env := [(42, .str a0), (0, .str a0), (1, .int .i64 a1), (5, .int .u64 x1_1.1), (6, .int .i64 x1_1.2), (7, .int .u64 x2_1.1), (8, .int .i64 x2_1.2), (9, .int .i64 x3_1.1), (10, .int .i64 x3_1.2)]
  refine oR 2 (p' := (atN 1 (ctl1 g10p8))) (eE := E6) (H' := (mkH [])) (by kernel_rfl) ?_
  refine oC (fun (x4_1 : (Int × Int)) => .tuple [.int .i64 x4_1.1, .int .i64 x4_1.2]) (atN 2 (ctl1 g10p8)) (fun x4_1 => ((43, .tuple [.int .i64 x4_1.1, .int .i64 x4_1.2]) :: E6)) (fi := 40) (args := [.str a0]) (by kernel_rfl) (by kernel_rfl) (fun _ => by kernel_rfl) (fun r h => g40_ok k a0 r h) (fun _ => by kernel_rfl) (fun x4_1 hx4_1 => ?_)
  let E7 : Env := ((48, .int .i64 a1) :: (47, .str a0) :: (12, .int .i64 x4_1.2) :: (11, .int .i64 x4_1.1) :: (45, .int .i64 x4_1.2) :: (44, .int .i64 x4_1.1) :: (41, .tuple [.int .i64 x4_1.1, .int .i64 x4_1.2]) :: (43, .tuple [.int .i64 x4_1.1, .int .i64 x4_1.2]) :: E6)
  refine oR 10 (p' := (atN 2 (ctl1 g10p9))) (eE := E7) (H' := (mkH [])) (by kernel_rfl) ?_
  refine oC (fun (x5_2 : (Int × Int)) => .tuple [.int .i64 x5_2.1, .int .i64 x5_2.2]) (atN 3 (ctl1 g10p9)) (fun x5_2 => ((49, .tuple [.int .i64 x5_2.1, .int .i64 x5_2.2]) :: E7)) (fi := 41) (args := [.str a0, .int .i64 a1]) (by kernel_rfl) (by kernel_rfl) (fun _ => by kernel_rfl) (fun r h => g41_ok k a0 a1 r h) (fun _ => by kernel_rfl) (fun x5_2 hx5_2 => ?_)
  let E8 : Env := ((14, .int .i64 x5_2.2) :: (13, .int .i64 x5_2.1) :: (51, .int .i64 x5_2.2) :: (50, .int .i64 x5_2.1) :: (46, .tuple [.int .i64 x5_2.1, .int .i64 x5_2.2]) :: (49, .tuple [.int .i64 x5_2.1, .int .i64 x5_2.2]) :: E7)
  refine oR 7 (p' := g10p10) (eE := E8) (H' := (mkH [])) (by kernel_rfl) ?_
  refine oK [0, 1, 5, 6, 7, 8, 9, 10, 11, 12, 13, 14] (eE := [(0, .str a0), (1, .int .i64 a1), (5, .int .u64 x1_1.1), (6, .int .i64 x1_1.2), (7, .int .u64 x2_1.1), (8, .int .i64 x2_1.2), (9, .int .i64 x3_1.1), (10, .int .i64 x3_1.2), (11, .int .i64 x4_1.1), (12, .int .i64 x4_1.2), (13, .int .i64 x5_2.1), (14, .int .i64 x5_2.2)]) (by kernel_rfl) ?_
  let E9 : Env := [(54, .int .i64 a1), (53, .str a0), (0, .str a0), (1, .int .i64 a1), (5, .int .u64 x1_1.1), (6, .int .i64 x1_1.2), (7, .int .u64 x2_1.1), (8, .int .i64 x2_1.2), (9, .int .i64 x3_1.1), (10, .int .i64 x3_1.2), (11, .int .i64 x4_1.1), (12, .int .i64 x4_1.2), (13, .int .i64 x5_2.1), (14, .int .i64 x5_2.2)]
  refine oR 3 (p' := (atN 2 (ctl1 g10p10))) (eE := E9) (H' := (mkH [])) (by kernel_rfl) ?_
  refine oC (fun (x6_2 : (Int × Int)) => .tuple [.int .i64 x6_2.1, .int .i64 x6_2.2]) (atN 3 (ctl1 g10p10)) (fun x6_2 => ((55, .tuple [.int .i64 x6_2.1, .int .i64 x6_2.2]) :: E9)) (fi := 42) (args := [.str a0, .int .i64 a1]) (by kernel_rfl) (by kernel_rfl) (fun _ => by kernel_rfl) (fun r h => g42_ok k a0 a1 r h) (fun _ => by kernel_rfl) (fun x6_2 hx6_2 => ?_)
  let E10 : Env := ((16, .int .i64 x6_2.2) :: (15, .int .i64 x6_2.1) :: (57, .int .i64 x6_2.2) :: (56, .int .i64 x6_2.1) :: (52, .tuple [.int .i64 x6_2.1, .int .i64 x6_2.2]) :: (55, .tuple [.int .i64 x6_2.1, .int .i64 x6_2.2]) :: E9)
  refine oR 7 (p' := g10p11) (eE := E10) (H' := (mkH [])) (by kernel_rfl) ?_
  refine oK [0, 5, 6, 7, 8, 9, 10, 11, 12, 13, 14, 15, 16] (eE := [(0, .str a0), (5, .int .u64 x1_1.1), (6, .int .i64 x1_1.2), (7, .int .u64 x2_1.1), (8, .int .i64 x2_1.2), (9, .int .i64 x3_1.1), (10, .int .i64 x3_1.2), (11, .int .i64 x4_1.1), (12, .int .i64 x4_1.2), (13, .int .i64 x5_2.1), (14, .int .i64 x5_2.2), (15, .int .i64 x6_2.1), (16, .int .i64 x6_2.2)]) (by kernel_rfl) ?_
  let E11 : Env := [(59, .str a0), (0, .str a0), (5, .int .u64 x1_1.1), (6, .int .i64 x1_1.2), (7, .int .u64 x2_1.1), (8, .int .i64 x2_1.2), (9, .int .i64 x3_1.1), (10, .int .i64 x3_1.2), (11, .int .i64 x4_1.1), (12, .int .i64 x4_1.2), (13, .int .i64 x5_2.1), (14, .int .i64 x5_2.2), (15, .int .i64 x6_2.1), (16, .int .i64 x6_2.2)]
  refine oR 2 (p' := (atN 1 (ctl1 g10p11))) (eE := E11) (H' := (mkH [])) (by kernel_rfl) ?_
  refine oC (fun (x7_1 : ((List Int) × Int)) => .tuple [.vec (x7_1.1).length 1 ((x7_1.1).flatMap e3), .int .i64 x7_1.2]) (atN 2 (ctl1 g10p11)) (fun x7_1 => ((60, .tuple [.vec (x7_1.1).length 1 ((x7_1.1).flatMap e3), .int .i64 x7_1.2]) :: E11)) (fi := 43) (args := [.str a0]) (by kernel_rfl) (by kernel_rfl) (fun _ => by kernel_rfl) (fun r h => g43_ok k a0 r h) (fun _ => by kernel_rfl) (fun x7_1 hx7_1 => ?_)
  let E12 : Env := ((64, .str a0) :: (18, .int .i64 x7_1.2) :: (17, .vec (x7_1.1).length 1 ((x7_1.1).flatMap e3)) :: (62, .int .i64 x7_1.2) :: (61, .vec (x7_1.1).length 1 ((x7_1.1).flatMap e3)) :: (58, .tuple [.vec (x7_1.1).length 1 ((x7_1.1).flatMap e3), .int .i64 x7_1.2]) :: (60, .tuple [.vec (x7_1.1).length 1 ((x7_1.1).flatMap e3), .int .i64 x7_1.2]) :: E11)
  refine oR 9 (p' := (atN 1 (ctl1 g10p12))) (eE := E12) (H' := (mkH [])) (by kernel_rfl) ?_
  refine oC (fun (x8_1 : ((List Int) × Int)) => .tuple [.vec (x8_1.1).length 1 ((x8_1.1).flatMap e3), .int .i64 x8_1.2]) (atN 2 (ctl1 g10p12)) (fun x8_1 => ((65, .tuple [.vec (x8_1.1).length 1 ((x8_1.1).flatMap e3), .int .i64 x8_1.2]) :: E12)) (fi := 44) (args := [.str a0]) (by kernel_rfl) (by kernel_rfl) (fun _ => by kernel_rfl) (fun r h => g44_ok k a0 r h) (fun _ => by kernel_rfl) (fun x8_1 hx8_1 => ?_)
  let E13 : Env := ((20, .int .i64 x8_1.2) :: (19, .vec (x8_1.1).length 1 ((x8_1.1).flatMap e3)) :: (67, .int .i64 x8_1.2) :: (66, .vec (x8_1.1).length 1 ((x8_1.1).flatMap e3)) :: (63, .tuple [.vec (x8_1.1).length 1 ((x8_1.1).flatMap e3), .int .i64 x8_1.2]) :: (65, .tuple [.vec (x8_1.1).length 1 ((x8_1.1).flatMap e3), .int .i64 x8_1.2]) :: E12)
  refine oR 8 (p' := g10p13) (eE := E13) (H' := (mkH [])) (by kernel_rfl) ?_
  refine oK [0, 5, 6, 7, 8, 9, 10, 11, 12, 13, 14, 15, 16, 17, 18, 19, 20] (eE := [(0, .str a0), (5, .int .u64 x1_1.1), (6, .int .i64 x1_1.2), (7, .int .u64 x2_1.1), (8, .int .i64 x2_1.2), (9, .int .i64 x3_1.1), (10, .int .i64 x3_1.2), (11, .int .i64 x4_1.1), (12, .int .i64 x4_1.2), (13, .int .i64 x5_2.1), (14, .int .i64 x5_2.2), (15, .int .i64 x6_2.1), (16, .int .i64 x6_2.2), (17, .vec (x7_1.1).length 1 ((x7_1.1).flatMap e3)), (18, .int .i64 x7_1.2), (19, .vec (x8_1.1).length 1 ((x8_1.1).flatMap e3)), (20, .int .i64 x8_1.2)]) (by kernel_rfl) ?_
  let E14 : Env := [(71, .bool (!decide (x1_1.1 = x2_1.1))), (70, .bool (!decide (x1_1.1 = x2_1.1))), (69, .int .u64 x2_1.1), (68, .int .u64 x1_1.1), (0, .str a0), (5, .int .u64 x1_1.1), (6, .int .i64 x1_1.2), (7, .int .u64 x2_1.1), (8, .int .i64 x2_1.2), (9, .int .i64 x3_1.1), (10, .int .i64 x3_1.2), (11, .int .i64 x4_1.1), (12, .int .i64 x4_1.2), (13, .int .i64 x5_2.1), (14, .int .i64 x5_2.2), (15, .int .i64 x6_2.1), (16, .int .i64 x6_2.2), (17, .vec (x7_1.1).length 1 ((x7_1.1).flatMap e3)), (18, .int .i64 x7_1.2), (19, .vec (x8_1.1).length 1 ((x8_1.1).flatMap e3)), (20, .int .i64 x8_1.2)]
  refine oR 5 (p' := (atN 4 (ctl1 g10p13))) (eE := E14) (H' := (mkH [])) (by kernel_rfl) ?_
  refine oJ (f := fun (z12 : Bool) => if z12 then (some false) else (g10_l13 k x7_1 x8_1 k 0)) g10p14 (fun (z12 : Bool) => [(17, .vec (x7_1.1).length 1 ((x7_1.1).flatMap e3)), (19, .vec (x8_1.1).length 1 ((x8_1.1).flatMap e3)), (114, .bool z12)]) (fun (z12 : Bool) => (mkH [])) (fun z12 => ?_) (fun j12 hj12 => ?_)
  ·refine oS 114 (b := z12) (by kernel_rfl) (fun hb => ?_) (fun hb => ?_)
   ·let E15 : Env := [(4, .bool false), (114, .bool true), (17, .vec (x7_1.1).length 1 ((x7_1.1).flatMap e3)), (19, .vec (x8_1.1).length 1 ((x8_1.1).flatMap e3)), (114, .bool z12)]
    refine oR 6 (p' := .fin) (eE := E15) (H' := (mkH [])) (by kernel_rfl) ?_
    exact oT (r := false) (xs := [.bool false]) (v := .bool false) (by kernel_rfl) (by kernel_rfl) (by kernel_rfl) (.pures (by kernel_rfl)) (by kernel_rfl)
   ·let E16 : Env := [(21, .int .i64 0), (114, .bool false), (17, .vec (x7_1.1).length 1 ((x7_1.1).flatMap e3)), (19, .vec (x8_1.1).length 1 ((x8_1.1).flatMap e3)), (114, .bool z12)]
    refine oR 9 (p' := g10p17) (eE := E16) (H' := (mkH [])) (by kernel_rfl) ?_
    refine oK [17, 19, 21] (eE := [(17, .vec (x7_1.1).length 1 ((x7_1.1).flatMap e3)), (19, .vec (x8_1.1).length 1 ((x8_1.1).flatMap e3)), (21, .int .i64 0)]) (by kernel_rfl) ?_
    exact (g10_l13_ok k x7_1 x8_1 k) 0
  ·refine oS 71 (b := !decide (x1_1.1 = x2_1.1)) (by kernel_rfl) (fun hb => ?_) (fun hb => ?_)
   ·let E21 : Env := ((114, .bool true) :: (113, .tuple []) :: (112, .tuple []) :: (111, .tuple []) :: (110, .tuple []) :: (109, .tuple []) :: (108, .bool true) :: (107, .bool true) :: (106, .tuple []) :: (105, .tuple []) :: (104, .tuple []) :: (103, .tuple []) :: (102, .tuple []) :: (101, .bool true) :: (100, .bool true) :: (99, .tuple []) :: (98, .tuple []) :: (97, .tuple []) :: (96, .bool true) :: (95, .bool true) :: (94, .tuple []) :: (93, .tuple []) :: (92, .tuple []) :: (91, .bool true) :: (90, .bool true) :: (89, .tuple []) :: (88, .tuple []) :: (87, .tuple []) :: (86, .bool true) :: (85, .bool true) :: (84, .tuple []) :: (83, .tuple []) :: (82, .tuple []) :: (81, .bool true) :: (80, .bool true) :: (79, .tuple []) :: (78, .tuple []) :: (77, .tuple []) :: (76, .bool true) :: (75, .bool true) :: (74, .tuple []) :: (73, .tuple []) :: (72, .tuple []) :: (71, .bool true) :: E14)
    refine oR 44 (p' := g10p14) (eE := E21) (H' := (mkH [])) (by kernel_rfl) ?_
    refine oK [17, 19, 114] (eE := [(17, .vec (x7_1.1).length 1 ((x7_1.1).flatMap e3)), (19, .vec (x8_1.1).length 1 ((x8_1.1).flatMap e3)), (114, .bool true)]) (by kernel_rfl) ?_
    exact hj12 true
   ·let E22 : Env := ((76, .bool (!decide (x1_1.2 = x2_1.2))) :: (75, .bool (!decide (x1_1.2 = x2_1.2))) :: (74, .bool (!decide (x1_1.2 = x2_1.2))) :: (73, .int .i64 x2_1.2) :: (72, .int .i64 x1_1.2) :: (71, .bool false) :: E14)
    refine oR 5 (p' := (atN 9 (ctl1 g10p13))) (eE := E22) (H' := (mkH [])) (by kernel_rfl) ?_
    refine oS 76 (b := !decide (x1_1.2 = x2_1.2)) (by kernel_rfl) (fun hb => ?_) (fun hb => ?_)
    ·let E23 : Env := ((114, .bool true) :: (113, .tuple []) :: (112, .tuple []) :: (111, .tuple []) :: (110, .tuple []) :: (109, .tuple []) :: (108, .bool true) :: (107, .bool true) :: (106, .tuple []) :: (105, .tuple []) :: (104, .tuple []) :: (103, .tuple []) :: (102, .tuple []) :: (101, .bool true) :: (100, .bool true) :: (99, .tuple []) :: (98, .tuple []) :: (97, .tuple []) :: (96, .bool true) :: (95, .bool true) :: (94, .tuple []) :: (93, .tuple []) :: (92, .tuple []) :: (91, .bool true) :: (90, .bool true) :: (89, .tuple []) :: (88, .tuple []) :: (87, .tuple []) :: (86, .bool true) :: (85, .bool true) :: (84, .tuple []) :: (83, .tuple []) :: (82, .tuple []) :: (81, .bool true) :: (80, .bool true) :: (79, .tuple []) :: (78, .tuple []) :: (77, .tuple []) :: (76, .bool true) :: E22)
     refine oR 39 (p' := g10p14) (eE := E23) (H' := (mkH [])) (by kernel_rfl) ?_
     refine oK [17, 19, 114] (eE := [(17, .vec (x7_1.1).length 1 ((x7_1.1).flatMap e3)), (19, .vec (x8_1.1).length 1 ((x8_1.1).flatMap e3)), (114, .bool true)]) (by kernel_rfl) ?_
     exact hj12 true
    ·let E24 : Env := ((81, .bool (!decide (x3_1.1 = x4_1.1))) :: (80, .bool (!decide (x3_1.1 = x4_1.1))) :: (79, .bool (!decide (x3_1.1 = x4_1.1))) :: (78, .int .i64 x4_1.1) :: (77, .int .i64 x3_1.1) :: (76, .bool false) :: E22)
     refine oR 5 (p' := (atN 14 (ctl1 g10p13))) (eE := E24) (H' := (mkH [])) (by kernel_rfl) ?_
     refine oS 81 (b := !decide (x3_1.1 = x4_1.1)) (by kernel_rfl) (fun hb => ?_) (fun hb => ?_)
     ·let E25 : Env := ((114, .bool true) :: (113, .tuple []) :: (112, .tuple []) :: (111, .tuple []) :: (110, .tuple []) :: (109, .tuple []) :: (108, .bool true) :: (107, .bool true) :: (106, .tuple []) :: (105, .tuple []) :: (104, .tuple []) :: (103, .tuple []) :: (102, .tuple []) :: (101, .bool true) :: (100, .bool true) :: (99, .tuple []) :: (98, .tuple []) :: (97, .tuple []) :: (96, .bool true) :: (95, .bool true) :: (94, .tuple []) :: (93, .tuple []) :: (92, .tuple []) :: (91, .bool true) :: (90, .bool true) :: (89, .tuple []) :: (88, .tuple []) :: (87, .tuple []) :: (86, .bool true) :: (85, .bool true) :: (84, .tuple []) :: (83, .tuple []) :: (82, .tuple []) :: (81, .bool true) :: E24)
      refine oR 34 (p' := g10p14) (eE := E25) (H' := (mkH [])) (by kernel_rfl) ?_
      refine oK [17, 19, 114] (eE := [(17, .vec (x7_1.1).length 1 ((x7_1.1).flatMap e3)), (19, .vec (x8_1.1).length 1 ((x8_1.1).flatMap e3)), (114, .bool true)]) (by kernel_rfl) ?_
      exact hj12 true
     ·let E26 : Env := ((86, .bool (!decide (x3_1.2 = x4_1.2))) :: (85, .bool (!decide (x3_1.2 = x4_1.2))) :: (84, .bool (!decide (x3_1.2 = x4_1.2))) :: (83, .int .i64 x4_1.2) :: (82, .int .i64 x3_1.2) :: (81, .bool false) :: E24)
      refine oR 5 (p' := (atN 19 (ctl1 g10p13))) (eE := E26) (H' := (mkH [])) (by kernel_rfl) ?_
      refine oS 86 (b := !decide (x3_1.2 = x4_1.2)) (by kernel_rfl) (fun hb => ?_) (fun hb => ?_)
      ·let E27 : Env := ((114, .bool true) :: (113, .tuple []) :: (112, .tuple []) :: (111, .tuple []) :: (110, .tuple []) :: (109, .tuple []) :: (108, .bool true) :: (107, .bool true) :: (106, .tuple []) :: (105, .tuple []) :: (104, .tuple []) :: (103, .tuple []) :: (102, .tuple []) :: (101, .bool true) :: (100, .bool true) :: (99, .tuple []) :: (98, .tuple []) :: (97, .tuple []) :: (96, .bool true) :: (95, .bool true) :: (94, .tuple []) :: (93, .tuple []) :: (92, .tuple []) :: (91, .bool true) :: (90, .bool true) :: (89, .tuple []) :: (88, .tuple []) :: (87, .tuple []) :: (86, .bool true) :: E26)
       refine oR 29 (p' := g10p14) (eE := E27) (H' := (mkH [])) (by kernel_rfl) ?_
       refine oK [17, 19, 114] (eE := [(17, .vec (x7_1.1).length 1 ((x7_1.1).flatMap e3)), (19, .vec (x8_1.1).length 1 ((x8_1.1).flatMap e3)), (114, .bool true)]) (by kernel_rfl) ?_
       exact hj12 true
      ·let E28 : Env := ((91, .bool (!decide (x5_2.1 = x6_2.1))) :: (90, .bool (!decide (x5_2.1 = x6_2.1))) :: (89, .bool (!decide (x5_2.1 = x6_2.1))) :: (88, .int .i64 x6_2.1) :: (87, .int .i64 x5_2.1) :: (86, .bool false) :: E26)
       refine oR 5 (p' := (atN 24 (ctl1 g10p13))) (eE := E28) (H' := (mkH [])) (by kernel_rfl) ?_
       refine oS 91 (b := !decide (x5_2.1 = x6_2.1)) (by kernel_rfl) (fun hb => ?_) (fun hb => ?_)
       ·let E29 : Env := ((114, .bool true) :: (113, .tuple []) :: (112, .tuple []) :: (111, .tuple []) :: (110, .tuple []) :: (109, .tuple []) :: (108, .bool true) :: (107, .bool true) :: (106, .tuple []) :: (105, .tuple []) :: (104, .tuple []) :: (103, .tuple []) :: (102, .tuple []) :: (101, .bool true) :: (100, .bool true) :: (99, .tuple []) :: (98, .tuple []) :: (97, .tuple []) :: (96, .bool true) :: (95, .bool true) :: (94, .tuple []) :: (93, .tuple []) :: (92, .tuple []) :: (91, .bool true) :: E28)
        refine oR 24 (p' := g10p14) (eE := E29) (H' := (mkH [])) (by kernel_rfl) ?_
        refine oK [17, 19, 114] (eE := [(17, .vec (x7_1.1).length 1 ((x7_1.1).flatMap e3)), (19, .vec (x8_1.1).length 1 ((x8_1.1).flatMap e3)), (114, .bool true)]) (by kernel_rfl) ?_
        exact hj12 true
       ·let E30 : Env := ((96, .bool (!decide (x5_2.2 = x6_2.2))) :: (95, .bool (!decide (x5_2.2 = x6_2.2))) :: (94, .bool (!decide (x5_2.2 = x6_2.2))) :: (93, .int .i64 x6_2.2) :: (92, .int .i64 x5_2.2) :: (91, .bool false) :: E28)
        refine oR 5 (p' := (atN 29 (ctl1 g10p13))) (eE := E30) (H' := (mkH [])) (by kernel_rfl) ?_
        refine oS 96 (b := !decide (x5_2.2 = x6_2.2)) (by kernel_rfl) (fun hb => ?_) (fun hb => ?_)
        ·let E31 : Env := ((114, .bool true) :: (113, .tuple []) :: (112, .tuple []) :: (111, .tuple []) :: (110, .tuple []) :: (109, .tuple []) :: (108, .bool true) :: (107, .bool true) :: (106, .tuple []) :: (105, .tuple []) :: (104, .tuple []) :: (103, .tuple []) :: (102, .tuple []) :: (101, .bool true) :: (100, .bool true) :: (99, .tuple []) :: (98, .tuple []) :: (97, .tuple []) :: (96, .bool true) :: E30)
         refine oR 19 (p' := g10p14) (eE := E31) (H' := (mkH [])) (by kernel_rfl) ?_
         refine oK [17, 19, 114] (eE := [(17, .vec (x7_1.1).length 1 ((x7_1.1).flatMap e3)), (19, .vec (x8_1.1).length 1 ((x8_1.1).flatMap e3)), (114, .bool true)]) (by kernel_rfl) ?_
         exact hj12 true
        ·let E32 : Env := ((101, .bool (!decide (x7_1.2 = x8_1.2))) :: (100, .bool (!decide (x7_1.2 = x8_1.2))) :: (99, .bool (!decide (x7_1.2 = x8_1.2))) :: (98, .int .i64 x8_1.2) :: (97, .int .i64 x7_1.2) :: (96, .bool false) :: E30)
         refine oR 5 (p' := (atN 34 (ctl1 g10p13))) (eE := E32) (H' := (mkH [])) (by kernel_rfl) ?_
         refine oS 101 (b := !decide (x7_1.2 = x8_1.2)) (by kernel_rfl) (fun hb => ?_) (fun hb => ?_)
         ·let E33 : Env := ((114, .bool true) :: (113, .tuple []) :: (112, .tuple []) :: (111, .tuple []) :: (110, .tuple []) :: (109, .tuple []) :: (108, .bool true) :: (107, .bool true) :: (106, .tuple []) :: (105, .tuple []) :: (104, .tuple []) :: (103, .tuple []) :: (102, .tuple []) :: (101, .bool true) :: E32)
          refine oR 14 (p' := g10p14) (eE := E33) (H' := (mkH [])) (by kernel_rfl) ?_
          refine oK [17, 19, 114] (eE := [(17, .vec (x7_1.1).length 1 ((x7_1.1).flatMap e3)), (19, .vec (x8_1.1).length 1 ((x8_1.1).flatMap e3)), (114, .bool true)]) (by kernel_rfl) ?_
          exact hj12 true
         ·let E34 : Env := ((108, .bool (!decide ((x7_1.1.length : Int) = (x8_1.1.length : Int)))) :: (107, .bool (!decide ((x7_1.1.length : Int) = (x8_1.1.length : Int)))) :: (106, .bool (!decide ((x7_1.1.length : Int) = (x8_1.1.length : Int)))) :: (105, .int .i64 (x8_1.1.length : Int)) :: (104, .vec (x8_1.1).length 1 ((x8_1.1).flatMap e3)) :: (103, .int .i64 (x7_1.1.length : Int)) :: (102, .vec (x7_1.1).length 1 ((x7_1.1).flatMap e3)) :: (101, .bool false) :: E32)
          refine oR 7 (p' := (atN 41 (ctl1 g10p13))) (eE := E34) (H' := (mkH [])) (by kernel_rfl) ?_
          refine oS 108 (b := !decide ((x7_1.1.length : Int) = (x8_1.1.length : Int))) (by kernel_rfl) (fun hb => ?_) (fun hb => ?_)
          ·let E35 : Env := ((114, .bool true) :: (113, .tuple []) :: (112, .tuple []) :: (111, .tuple []) :: (110, .tuple []) :: (109, .tuple []) :: (108, .bool true) :: E34)
           refine oR 7 (p' := g10p14) (eE := E35) (H' := (mkH [])) (by kernel_rfl) ?_
           refine oK [17, 19, 114] (eE := [(17, .vec (x7_1.1).length 1 ((x7_1.1).flatMap e3)), (19, .vec (x8_1.1).length 1 ((x8_1.1).flatMap e3)), (114, .bool true)]) (by kernel_rfl) ?_
           exact hj12 true
          ·refine oR 1 (p' := (atN 42 (ctl1 g10p13))) (eE := ((109, .str a0) :: (108, .bool false) :: E34)) (H' := (mkH [])) (by kernel_rfl) ?_
           refine oC (fun (x9_42 : Bool) => .bool x9_42) (atN 43 (ctl1 g10p13)) (fun x9_42 => ((110, .bool x9_42) :: (109, .str a0) :: (108, .bool false) :: E34)) (fi := 45) (args := [.str a0]) (by kernel_rfl) (by kernel_rfl) (fun _ => by kernel_rfl) (fun r h => g45_ok k a0 r h) (fun _ => by kernel_rfl) (fun x9_42 hx9_42 => ?_)
           refine oR 1 (p' := (atN 44 (ctl1 g10p13))) (eE := ((111, .str a0) :: (110, .bool x9_42) :: (109, .str a0) :: (108, .bool false) :: E34)) (H' := (mkH [])) (by kernel_rfl) ?_
           refine oC (fun (x9_44 : Bool) => .bool x9_44) (atN 45 (ctl1 g10p13)) (fun x9_44 => ((112, .bool x9_44) :: (111, .str a0) :: (110, .bool x9_42) :: (109, .str a0) :: (108, .bool false) :: E34)) (fi := 46) (args := [.str a0]) (by kernel_rfl) (by kernel_rfl) (fun _ => by kernel_rfl) (fun r h => g46_ok k a0 r h) (fun _ => by kernel_rfl) (fun x9_44 hx9_44 => ?_)
           let E36 : Env := ((114, .bool (!(x9_42 == x9_44))) :: (113, .bool (!(x9_42 == x9_44))) :: (112, .bool x9_44) :: (111, .str a0) :: (110, .bool x9_42) :: (109, .str a0) :: (108, .bool false) :: E34)
           refine oR 3 (p' := g10p14) (eE := E36) (H' := (mkH [])) (by kernel_rfl) ?_
           refine oK [17, 19, 114] (eE := [(17, .vec (x7_1.1).length 1 ((x7_1.1).flatMap e3)), (19, .vec (x8_1.1).length 1 ((x8_1.1).flatMap e3)), (114, .bool (!(x9_42 == x9_44)))]) (by kernel_rfl) ?_
           exact hj12 (!(x9_42 == x9_44))
end
end Go.Proofs.Ytabhkocokojddaa.Am
set_option maxRecDepth 100000
set_option linter.unusedVariables false
set_option linter.unusedSimpArgs false
namespace Go.Proofs.Ytabhkocokojddaa.Am
open Go
theorem asks_l (k : Nat) (r : List Int × Int) (hr : r.1.length ≤ 200) : ∀ (f i : Nat), r.1.length < i + f → i ≤ r.1.length → g10_l13 (k + 60) r r f (i : Int) = some true
 | 0, i, h, h2 => by omega
 | f + 1, i, h, h2 => by
  rw [g10_l13_s]
  rcases Nat.lt_or_ge i r.1.length with hi | hi
  ·have ih := asks_l k r hr f (i + 1) (by omega) (by omega)
   obtain ⟨x, t, hx, -, -, -⟩ := dconsL (s := r.1) (i := i) hi
   have nx : nthL r.1 (i : Int) = some x := nthL_at hx
   refine iT (dT (by omega)) ?_
   refine bS (by (try simp (disch := omega) only [fwI]); exact nx) ?_
   refine bS (by (try simp (disch := omega) only [fwI]); exact nx) ?_
   refine iF (by rw [dT rfl]; rfl) ?_
   rw [fw_s (by omega)]
   exact ih
  ·refine iF (dF (by omega)) ?_
   refine bS (by (try simp (disch := omega) only [fwI]); exact told4 k) ?_
   rfl
theorem litAsks_true (s : List Nat) (a1 : Int) (hs : ∀ b ∈ s, b < 256) (hl : s.length ≤ 140737488351232) : ∃ k, g10 k s a1 = some true := by
 refine ⟨440 + 60, ?_⟩
 unfold g10
 by_cases h15 : 200 < s.length
 ·refine iT (dT (by omega)) ?_
  refine bS (by (try simp (disch := omega) only [fwI]); exact told4 440) ?_
  rfl
 ·refine iF (dF (by omega)) ?_
  obtain ⟨q, q1, q2, q3⟩ := Quoted_at (k := 440 + 60) hs (by omega) (by omega)
  have ea : ∃ x, g41 (440 + 60) s a1 = some x ∧ g42 (440 + 60) s a1 = some x := by
   by_cases h : a1 < 0
   ·exact ⟨_, escape_neg h, rescape_neg h⟩
   ·have e : a1 = ((a1.toNat : Nat) : Int) := (Int.toNat_of_nonneg (by omega)).symm
    rw [e]
    exact ⟨_, escape_at (by omega) hs hl _, rescape_at (by omega) hs hl _⟩
  obtain ⟨x, x1, x2⟩ := ea
  refine bS (by (try simp (disch := omega) only [fwI]); exact Integer_at (k := 440 + 60) (by omega) (by omega) hs hl) ?_
  refine bS (by (try simp (disch := omega) only [fwI]); exact rInteger_at (k := 440 + 60) (by omega) (by omega) hs hl) ?_
  refine bS (by (try simp (disch := omega) only [fwI]); exact Char_at (k := 440 + 60) (by omega) hs hl) ?_
  refine bS (by (try simp (disch := omega) only [fwI]); exact rChar_at (k := 440 + 60) (by omega) hs hl) ?_
  refine bS (by (try simp (disch := omega) only [fwI]); exact x1) ?_
  refine bS (by (try simp (disch := omega) only [fwI]); exact x2) ?_
  refine bS (by (try simp (disch := omega) only [fwI]); exact q1) ?_
  refine bS (by (try simp (disch := omega) only [fwI]); exact q2) ?_
  refine (jS (v := false) (fun j => ?_)).trans ?_
  ·rw [dT (p := (intN s).1 = (intN s).1) rfl, dT (p := (intN s).2 = (intN s).2) rfl, dT (p := (chaN s).1 = (chaN s).1) rfl, dT (p := (chaN s).2 = (chaN s).2) rfl, dT (p := x.1 = x.1) rfl, dT (p := x.2 = x.2) rfl, dT (p := q.2 = q.2) rfl, dT (p := (q.1.length : Int) = (q.1.length : Int)) rfl]
   refine iF rfl (iF rfl (iF rfl (iF rfl (iF rfl (iF rfl (iF rfl (iF rfl ?_)))))))
   refine bS (by (try simp (disch := omega) only [fwI]); exact Float_at (k := 440 + 60) (by omega) hs hl) ?_
   refine bS (by (try simp (disch := omega) only [fwI]); exact rFloat_at (k := 440 + 60) (by omega) hs hl) ?_
   cases floN s <;> rfl
  ·refine iF rfl ?_
   exact asks_l 440 q q3 (440 + 60) 0 (by omega) (by omega)
end Go.Proofs.Ytabhkocokojddaa.Am
set_option linter.unusedVariables false
set_option linter.unusedSimpArgs false
namespace Go.Proofs.Ytabhkocokojddaa.Am
open Go
theorem litAsks_walk (a0 : ByteArray) (a1 : Int) (W : World) (w0 : a0.size ≤ 140737488351232) (w1 : (Lit.int .i64 a1).wf = true) : Calls Try.prog 10 #[.string a0, .int .i64 a1] W fun e W' => e = .returned (.bool true) ∧ RowKit.Below W.heap.size W W' := by
 obtain ⟨k, h⟩ := litAsks_true (a0.data.toList.map (·.toNat)) a1 (bytes_lt a0) (by simpa using w0)
 exact law_walk (g10_ok k (a0.data.toList.map (·.toNat)) a1 true h) (by simp only [VRs, VR]; exact ⟨_, _, rfl, ⟨a0, rfl, rfl⟩, ⟨_, _, rfl, rfl, rfl⟩⟩) W
end Go.Proofs.Ytabhkocokojddaa.Am
namespace Go.Proofs.Ytabhkocokojddaa.litAsks
open Go.ChangeShapes Go.WideShapes Go.ChangeAt Go.RowKit
open Go.ChangeMaps (open_string shut_string)
set_option linter.unusedVariables false
theorem own : ownKnob Try.prog.godebug = none := by kernel_rfl
set_option maxRecDepth 100000 in
theorem lifted (os : Os) (started : os.Started) (H : Type) (enc : TypeId × Value → H) :
 ReturnsInHanded {} Try.checked os 10 .any (Rows.litAsksSpec.pre6 enc Try.prog Try.f10 Rows.litAsksRow.domain false) (Rows.litAsksSpec.post enc Try.prog Try.f10 false true false false) := by
 refine returnsInHanded_of_change_sized (C := Try.checked) own started (by kernel_rfl) Try.func10
  (ChangeSpec.witness6 (enc := enc) (C := Try.checked) false ⟨#[], #[.string ByteArray.empty, .int .i64 0], []⟩ 8 (by kernel_rfl) (by kernel_rfl) (by kernel_rfl) (by kernel_rfl)) ?_
 intro W base args ds gs before hval0 hW hcnd hsz0 _
 have hsz : (DataW.weightsEach Try.prog (Try.f10.params.toList ++ Rows.litAsksSpec.plain.varTypes Try.prog) (ds ++ gs)).all (· ≤ reachBytes) = true := hsz0
 have hval : ∀ (j : Nat) t v, Try.f10.params[j]? = some t → args[j]? = some v → Value.okWide Try.prog W .any base t v := hval0
 have hW' := hW
 obtain ⟨p, q, hA0, hV, rfl, hfz, hnd⟩ := hW
 have hA : DataW.TrodAll enc Try.prog W 0 (fun _ => true) true Try.f10.params.toList args.toList ds p := hA0
 rw [Try.params10] at hA hval hsz
 obtain ⟨v0, vs0, d0, ds0, p0, q0, hargs, rfl, rfl, h0, r0⟩ := trodAll_cons hA
 obtain ⟨v1, vs1, d1, ds1, p1, q1, rfl, rfl, rfl, h1, r1⟩ := trodAll_cons r0
 obtain ⟨rfl, rfl, rfl⟩ := trodAll_nil r1
 obtain rfl : args = #[v0, v1] := by cases args; simp_all
 obtain ⟨rfl, rfl⟩ := trodVars_none hV
 obtain ⟨a0, rfl, rfl, rfl, y0⟩ := open_string Try.underlying9 (hval 0 9 v0 rfl rfl) h0
 have w0 : a0.size ≤ 140737488351232 := by
  have z := sized_string hsz (j := 0) (t := 9) rfl rfl
  rw [Array.length_toList] at z
  exact z
 obtain ⟨a1, rfl, rfl, rfl, w1⟩ := open_int Try.underlying3 (hval 1 3 v1 rfl rfl) h1
 clear hA0 hval0 hsz0 hsz
 refine (Am.litAsks_walk a0 a1 W w0 w1).mono fun e W' ⟨he, bel⟩ => ?_
 subst he
 exact ⟨_, rfl, _, _, _, [], _, [], hW', trodAll_mk1 (shut_bool Try.underlying4 _), (trodAll_cons_mk (shut_string Try.underlying9 y0) (trodAll_cons_mk (shut_int Try.underlying3 w1) trodAll_mk0)), rfl, bel.frame _, fun h => by cases h⟩
theorem over : Rows.litAsksRow.holds Try.pinned (OpenSpec.ofChange Rows.litAsksSpec) :=
 OpenClaim.holds_of_wide 10 Try.f10 rfl rfl rfl rfl rfl rfl rfl ⟨rfl, rfl, rfl, rfl, rfl⟩ rfl rfl rfl rfl rfl (by kernel_rfl) Try.func10 (by kernel_rfl)
  (of_decide_eq_true (by kernel_rfl)) (by unfold Func.isWrapper; first | (rw [if_pos (by decide +kernel)]; kernel_rfl) | (rw [if_neg (by decide +kernel)]; exact ⟨rfl, rfl⟩))
  (fun os started H enc _ => lifted os started H enc)
theorem proved : Rows.LitAsksSaid := over
#print axioms proved
end Go.Proofs.Ytabhkocokojddaa.litAsks
namespace Go.Proofs.Ytabhkocokojddaa
theorem litAsks_holds : Rows.LitAsksSaid := litAsks.proved
end Go.Proofs.Ytabhkocokojddaa
