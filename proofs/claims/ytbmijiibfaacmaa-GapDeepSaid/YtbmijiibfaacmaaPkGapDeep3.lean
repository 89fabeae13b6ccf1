/- LawGapDeep, part 3: whatever the input, the law comes out true: our texts, joined by a tool, without what the claim does not name. -/
import Derived.Test.YtbmijiibfaacmaaPkGapDeep2
set_option maxRecDepth 100000
set_option linter.unusedVariables false
namespace Go.Proofs.Ytbmijiibfaacmaa.Am
noncomputable section
open Go
theorem g57_l2_ok (k : Nat)  (a0 : (List Nat))  : ∀ (n : Nat) (y2_0 : Int), Ok X57 g57p2 [(0, .str a0), (3, .int .i64 y2_0)] (mkH []) (g57_l2 k a0 n y2_0)
 | 0, _ => ok_none
 | n + 1, y2_0 => by
  have ih := g57_l2_ok k a0 n
  rw [g57_l2_s]
  refine ok_ent (p' := nav [0] g57p2) (by kernel_rfl) ?_
  let E2 : Env := [(8, .bool (decide (0 < y2_0))), (7, .bool (decide (0 < y2_0))), (6, .int .i64 y2_0), (0, .str a0), (3, .int .i64 y2_0)]
  refine oR 6 (p' := (atN 3 (ctl1 g57p3))) (eE := E2) (H' := (mkH [])) (by kernel_rfl) ?_
  refine oJ (f := fun (z3 : Bool × Int) => if z3.1 then ((g57_l2 k a0 n) (fW .i64 (z3.2 - 1))) else ((subL a0 none (some z3.2)).bind fun x1_2 => some x1_2)) g57p4 (fun (z3 : Bool × Int) => [(0, .str a0), (3, .int .i64 z3.2), (28, .bool z3.1)]) (fun (z3 : Bool × Int) => (mkH [])) (fun z3 => ?_) (fun j3 hj3 => ?_)
  ·refine oS 28 (b := z3.1) (by kernel_rfl) (fun hb => ?_) (fun hb => ?_)
   ·let E3 : Env := [(3, .int .i64 (fW .i64 (z3.2 - 1))), (30, .int .i64 (fW .i64 (z3.2 - 1))), (29, .int .i64 z3.2), (28, .bool true), (0, .str a0), (3, .int .i64 z3.2), (28, .bool z3.1)]
    refine oR 8 (p' := g57p2) (eE := E3) (H' := (mkH [])) (by kernel_rfl) ?_
    refine oK [0, 3] (eE := [(0, .str a0), (3, .int .i64 (fW .i64 (z3.2 - 1)))]) (by kernel_rfl) ?_
    exact ih (fW .i64 (z3.2 - 1))
   ·let E4 : Env := [(32, .int .i64 z3.2), (31, .str a0), (28, .bool false), (0, .str a0), (3, .int .i64 z3.2), (28, .bool z3.1)]
    refine oR 6 (p' := (atN 2 (ctl1 g57p6))) (eE := E4) (H' := (mkH [])) (by kernel_rfl) ?_
    refine oH (fun (x1_2 : (List Nat)) => (.str x1_2, (mkH []))) (atN 3 (ctl1 g57p6)) (fun x1_2 => ((33, .str x1_2) :: E4)) (subH none (some z3.2) (by kernel_rfl)) (fun _ => by kernel_rfl) (fun x1_2 hx1_2 => ?_)
    refine oR 3 (p' := .fin) (eE := ((2, .str x1_2) :: (33, .str x1_2) :: E4)) (H' := (mkH [])) (by kernel_rfl) ?_
    exact oT (r := x1_2) (xs := [.str x1_2]) (v := .str x1_2) (by kernel_rfl) (by kernel_rfl) (by kernel_rfl) (.pures (by kernel_rfl)) (by kernel_rfl)
  ·refine oS 8 (b := decide (0 < y2_0)) (by kernel_rfl) (fun hb => ?_) (fun hb => ?_)
   ·refine oR 3 (p' := (atN 6 (ctl1 g57p3))) (eE := ((11, .int .i64 (fW .i64 (y2_0 - 1))) :: (10, .int .i64 y2_0) :: (9, .str a0) :: (8, .bool true) :: E2)) (H' := (mkH [])) (by kernel_rfl) ?_
    refine oH (fun (x0_6 : Int) => (.int .u8 x0_6, (mkH []))) (atN 7 (ctl1 g57p3)) (fun x0_6 => ((12, .int .u8 x0_6) :: (11, .int .i64 (fW .i64 (y2_0 - 1))) :: (10, .int .i64 y2_0) :: (9, .str a0) :: (8, .bool true) :: E2)) (idxH (by kernel_rfl)) (fun _ => by kernel_rfl) (fun x0_6 hx0_6 => ?_)
    let E5 : Env := ((14, .bool (decide (x0_6 = 32))) :: (13, .bool (decide (x0_6 = 32))) :: (12, .int .u8 x0_6) :: (11, .int .i64 (fW .i64 (y2_0 - 1))) :: (10, .int .i64 y2_0) :: (9, .str a0) :: (8, .bool true) :: E2)
    refine oR 2 (p' := (atN 9 (ctl1 g57p3))) (eE := E5) (H' := (mkH [])) (by kernel_rfl) ?_
    refine oS 14 (b := decide (x0_6 = 32)) (by kernel_rfl) (fun hb => ?_) (fun hb => ?_)
    ·let E6 : Env := ((28, .bool true) :: (27, .bool true) :: (26, .tuple []) :: (25, .tuple []) :: (24, .tuple []) :: (23, .tuple []) :: (22, .tuple []) :: (21, .bool true) :: (20, .bool true) :: (19, .tuple []) :: (18, .tuple []) :: (17, .tuple []) :: (16, .tuple []) :: (15, .tuple []) :: (14, .bool true) :: E5)
     refine oR 15 (p' := g57p4) (eE := E6) (H' := (mkH [])) (by kernel_rfl) ?_
     refine oK [0, 3, 28] (eE := [(0, .str a0), (3, .int .i64 y2_0), (28, .bool true)]) (by kernel_rfl) ?_
     exact hj3 (true, y2_0)
    ·refine oR 3 (p' := (atN 12 (ctl1 g57p3))) (eE := ((17, .int .i64 (fW .i64 (y2_0 - 1))) :: (16, .int .i64 y2_0) :: (15, .str a0) :: (14, .bool false) :: E5)) (H' := (mkH [])) (by kernel_rfl) ?_
     refine oH (fun (x0_12 : Int) => (.int .u8 x0_12, (mkH []))) (atN 13 (ctl1 g57p3)) (fun x0_12 => ((18, .int .u8 x0_12) :: (17, .int .i64 (fW .i64 (y2_0 - 1))) :: (16, .int .i64 y2_0) :: (15, .str a0) :: (14, .bool false) :: E5)) (idxH (by kernel_rfl)) (fun _ => by kernel_rfl) (fun x0_12 hx0_12 => ?_)
     let E7 : Env := ((21, .bool (decide (x0_12 = 9))) :: (20, .bool (decide (x0_12 = 9))) :: (19, .bool (decide (x0_12 = 9))) :: (18, .int .u8 x0_12) :: (17, .int .i64 (fW .i64 (y2_0 - 1))) :: (16, .int .i64 y2_0) :: (15, .str a0) :: (14, .bool false) :: E5)
     refine oR 3 (p' := (atN 16 (ctl1 g57p3))) (eE := E7) (H' := (mkH [])) (by kernel_rfl) ?_
     refine oS 21 (b := decide (x0_12 = 9)) (by kernel_rfl) (fun hb => ?_) (fun hb => ?_)
     ·let E8 : Env := ((28, .bool true) :: (27, .bool true) :: (26, .tuple []) :: (25, .tuple []) :: (24, .tuple []) :: (23, .tuple []) :: (22, .tuple []) :: (21, .bool true) :: E7)
      refine oR 8 (p' := g57p4) (eE := E8) (H' := (mkH [])) (by kernel_rfl) ?_
      refine oK [0, 3, 28] (eE := [(0, .str a0), (3, .int .i64 y2_0), (28, .bool true)]) (by kernel_rfl) ?_
      exact hj3 (true, y2_0)
     ·refine oR 3 (p' := (atN 19 (ctl1 g57p3))) (eE := ((24, .int .i64 (fW .i64 (y2_0 - 1))) :: (23, .int .i64 y2_0) :: (22, .str a0) :: (21, .bool false) :: E7)) (H' := (mkH [])) (by kernel_rfl) ?_
      refine oH (fun (x0_19 : Int) => (.int .u8 x0_19, (mkH []))) (atN 20 (ctl1 g57p3)) (fun x0_19 => ((25, .int .u8 x0_19) :: (24, .int .i64 (fW .i64 (y2_0 - 1))) :: (23, .int .i64 y2_0) :: (22, .str a0) :: (21, .bool false) :: E7)) (idxH (by kernel_rfl)) (fun _ => by kernel_rfl) (fun x0_19 hx0_19 => ?_)
      let E9 : Env := ((28, .bool (decide (x0_19 = 13))) :: (27, .bool (decide (x0_19 = 13))) :: (26, .bool (decide (x0_19 = 13))) :: (25, .int .u8 x0_19) :: (24, .int .i64 (fW .i64 (y2_0 - 1))) :: (23, .int .i64 y2_0) :: (22, .str a0) :: (21, .bool false) :: E7)
      refine oR 4 (p' := g57p4) (eE := E9) (H' := (mkH [])) (by kernel_rfl) ?_
      refine oK [0, 3, 28] (eE := [(0, .str a0), (3, .int .i64 y2_0), (28, .bool (decide (x0_19 = 13)))]) (by kernel_rfl) ?_
      exact hj3 (decide (x0_19 = 13), y2_0)
   ·let E10 : Env := ((28, .bool false) :: (27, .tuple []) :: (26, .tuple []) :: (25, .tuple []) :: (24, .tuple []) :: (23, .tuple []) :: (22, .tuple []) :: (21, .tuple []) :: (20, .tuple []) :: (19, .tuple []) :: (18, .tuple []) :: (17, .tuple []) :: (16, .tuple []) :: (15, .tuple []) :: (14, .tuple []) :: (13, .tuple []) :: (12, .tuple []) :: (11, .tuple []) :: (10, .tuple []) :: (9, .tuple []) :: (8, .bool false) :: E2)
    refine oR 21 (p' := g57p4) (eE := E10) (H' := (mkH [])) (by kernel_rfl) ?_
    refine oK [0, 3, 28] (eE := [(0, .str a0), (3, .int .i64 y2_0), (28, .bool false)]) (by kernel_rfl) ?_
    exact hj3 (false, y2_0)
def g57 (k : Nat) (a0 : (List Nat)) : Option (List Nat) :=
 g57_l2 k a0 k (a0.length : Int)
theorem g57_ok (k : Nat) (a0 : (List Nat)) (r : (List Nat)) (h : g57 k a0 = some r) : PureOk Try.prog 57 [.str a0] (.str r) := by
 refine pure_of X57 (fun _ => rfl) Try.func57 (by decide +kernel) (by kernel_rfl) (t := g57 k a0) ?_ h
 unfold g57
 refine oE (eE := [(0, .str a0)]) (by kernel_rfl) ?_
 let E1 : Env := [(3, .int .i64 (a0.length : Int)), (5, .int .i64 (a0.length : Int)), (4, .str a0), (2, .str []), (0, .str a0)]
 refine oR 13 (p' := g57p2) (eE := E1) (H' := (mkH [])) (by kernel_rfl) ?_
 refine oK [0, 3] (eE := [(0, .str a0), (3, .int .i64 (a0.length : Int))]) (by kernel_rfl) ?_
 exact (g57_l2_ok k a0 k) (a0.length : Int)
end
end Go.Proofs.Ytbmijiibfaacmaa.Am
set_option maxRecDepth 100000
set_option linter.unusedVariables false
namespace Go.Proofs.Ytbmijiibfaacmaa.Am
noncomputable section
open Go
def X78 : Fx Int := ⟨Try.prog, cx, Try.f78, fun r => .int .i64 r, 0, fun _ => H0, cxTi, cxOrd⟩
def g78p0 : Pt := nav [0] (bodyAt Try.f78)
def g78p1 : Pt := nav [0, 0, 0] g78p0
def g78p2 : Pt := nav [0, 0, 0, 0, 0] g78p1
def g78p3 : Pt := nav [0, 0] g78p2
def g78p4 : Pt := nav [1] g78p3
def g78p5 : Pt := nav [2, 0] g78p3
def g78p6 : Pt := nav [0, 0, 0, 0] g78p4
def g78p7 : Pt := nav [0, 0] g78p5
def g78p8 : Pt := nav [0, 0] g78p6
def g78p10 : Pt := nav [2, 0] g78p7
def g78p13 : Pt := nav [0, 0] g78p10
def g78 (k : Nat) (a0 : Int) (a1 : Int) : Option Int :=
 (g71 k a0).bind fun x0_1 => jn (fun (z1 : Int) => if (decide (a1 ≤ z1)) then (some ((-1) : Int)) else (some z1)) (fun j1 => if x0_1 then (j1 (fW .i64 (fW .u8 (a0 - 48)))) else (jn (fun (z2 : Bool) => if z2 then (j1 (fW .i64 (fW .i64 (fW .u8 (a0 - 97)) + 10))) else (jn (fun (z3 : Bool) => if z3 then (j1 (fW .i64 (fW .i64 (fW .u8 (a0 - 65)) + 10))) else (j1 (-1))) (fun j3 => if (decide (65 ≤ a0)) then (j3 (decide (a0 ≤ 90))) else (j3 false)))) (fun j2 => if (decide (97 ≤ a0)) then (j2 (decide (a0 ≤ 122))) else (j2 false))))
theorem g78_ok (k : Nat) (a0 : Int) (a1 : Int) (r : Int) (h : g78 k a0 a1 = some r) : PureOk Try.prog 78 [.int .u8 a0, .int .i64 a1] (.int .i64 r) := by
 refine pure_of X78 (fun _ => rfl) Try.func78 (by decide +kernel) (by kernel_rfl) (t := g78 k a0 a1) ?_ h
 unfold g78
 refine oE (eE := [(0, .int .u8 a0), (1, .int .i64 a1)]) (by kernel_rfl) ?_
 let E1 : Env := [(7, .int .u8 a0), (5, .int .i64 (-1)), (4, .int .i64 0), (0, .int .u8 a0), (1, .int .i64 a1)]
 refine oR 13 (p' := (atN 1 (ctl1 g78p2))) (eE := E1) (H' := (mkH [])) (by kernel_rfl) ?_
 refine oC (fun (x0_1 : Bool) => .bool x0_1) (atN 2 (ctl1 g78p2)) (fun x0_1 => ((8, .bool x0_1) :: E1)) (fi := 71) (args := [.int .u8 a0]) (by kernel_rfl) (by kernel_rfl) (fun _ => by kernel_rfl) (fun r h => g71_ok k a0 r h) (fun _ => by kernel_rfl) (fun x0_1 hx0_1 => ?_)
 refine oR 2 (p' := g78p3) (eE := ((6, .bool x0_1) :: (8, .bool x0_1) :: E1)) (H' := (mkH [])) (by kernel_rfl) ?_
 refine oJ (f := fun (z1 : Int) => if (decide (a1 ≤ z1)) then (some ((-1) : Int)) else (some z1)) g78p6 (fun (z1 : Int) => [(1, .int .i64 a1), (5, .int .i64 z1)]) (fun (z1 : Int) => (mkH [])) (fun z1 => ?_) (fun j1 hj1 => ?_)
 ·let E2 : Env := [(36, .bool (decide (a1 ≤ z1))), (35, .int .i64 a1), (34, .int .i64 z1), (1, .int .i64 a1), (5, .int .i64 z1)]
  refine oR 5 (p' := g78p8) (eE := E2) (H' := (mkH [])) (by kernel_rfl) ?_
  refine oS 36 (b := decide (a1 ≤ z1)) (by kernel_rfl) (fun hb => ?_) (fun hb => ?_)
  ·refine oR 6 (p' := .fin) (eE := ((4, .int .i64 (-1)) :: (36, .bool true) :: E2)) (H' := (mkH [])) (by kernel_rfl) ?_
   exact oT (r := ((-1) : Int)) (xs := [.int .i64 (-1)]) (v := .int .i64 (-1)) (by kernel_rfl) (by kernel_rfl) (by kernel_rfl) (.pures (by kernel_rfl)) (by kernel_rfl)
  ·refine oR 8 (p' := .fin) (eE := ((4, .int .i64 z1) :: (37, .int .i64 z1) :: (36, .bool false) :: E2)) (H' := (mkH [])) (by kernel_rfl) ?_
   exact oT (r := z1) (xs := [.int .i64 z1]) (v := .int .i64 z1) (by kernel_rfl) (by kernel_rfl) (by kernel_rfl) (.pures (by kernel_rfl)) (by kernel_rfl)
 ·refine oS 6 (b := x0_1) (by kernel_rfl) (fun hb => ?_) (fun hb => ?_)
  ·let E3 : Env := ((5, .int .i64 (fW .i64 (fW .u8 (a0 - 48)))) :: (11, .int .i64 (fW .i64 (fW .u8 (a0 - 48)))) :: (10, .int .u8 (fW .u8 (a0 - 48))) :: (9, .int .u8 a0) :: (6, .bool true) :: (6, .bool x0_1) :: (8, .bool x0_1) :: E1)
   refine oR 9 (p' := g78p6) (eE := E3) (H' := (mkH [])) (by kernel_rfl) ?_
   refine oK [1, 5] (eE := [(1, .int .i64 a1), (5, .int .i64 (fW .i64 (fW .u8 (a0 - 48))))]) (by kernel_rfl) ?_
   exact hj1 (fW .i64 (fW .u8 (a0 - 48)))
  ·let E4 : Env := ((15, .bool (decide (97 ≤ a0))) :: (14, .bool (decide (97 ≤ a0))) :: (13, .int .u8 a0) :: (6, .bool false) :: (6, .bool x0_1) :: (8, .bool x0_1) :: E1)
   refine oR 6 (p' := (atN 3 (ctl1 g78p5))) (eE := E4) (H' := (mkH [])) (by kernel_rfl) ?_
   refine oJ (f := fun (z2 : Bool) => if z2 then (j1 (fW .i64 (fW .i64 (fW .u8 (a0 - 97)) + 10))) else (jn (fun (z3 : Bool) => if z3 then (j1 (fW .i64 (fW .i64 (fW .u8 (a0 - 65)) + 10))) else (j1 (-1))) (fun j3 => if (decide (65 ≤ a0)) then (j3 (decide (a0 ≤ 90))) else (j3 false)))) g78p7 (fun (z2 : Bool) => [(0, .int .u8 a0), (1, .int .i64 a1), (5, .int .i64 (-1)), (12, .bool z2)]) (fun (z2 : Bool) => (mkH [])) (fun z2 => ?_) (fun j2 hj2 => ?_)
   ·refine oS 12 (b := z2) (by kernel_rfl) (fun hb => ?_) (fun hb => ?_)
    ·let E5 : Env := [(5, .int .i64 (fW .i64 (fW .i64 (fW .u8 (a0 - 97)) + 10))), (22, .int .i64 (fW .i64 (fW .i64 (fW .u8 (a0 - 97)) + 10))), (21, .int .i64 (fW .i64 (fW .u8 (a0 - 97)))), (20, .int .u8 (fW .u8 (a0 - 97))), (19, .int .u8 a0), (12, .bool true), (0, .int .u8 a0), (1, .int .i64 a1), (5, .int .i64 (-1)), (12, .bool z2)]
     refine oR 10 (p' := g78p6) (eE := E5) (H' := (mkH [])) (by kernel_rfl) ?_
     refine oK [1, 5] (eE := [(1, .int .i64 a1), (5, .int .i64 (fW .i64 (fW .i64 (fW .u8 (a0 - 97)) + 10)))]) (by kernel_rfl) ?_
     exact hj1 (fW .i64 (fW .i64 (fW .u8 (a0 - 97)) + 10))
    ·let E6 : Env := [(26, .bool (decide (65 ≤ a0))), (25, .bool (decide (65 ≤ a0))), (24, .int .u8 a0), (12, .bool false), (0, .int .u8 a0), (1, .int .i64 a1), (5, .int .i64 (-1)), (12, .bool z2)]
     refine oR 6 (p' := (atN 3 (ctl1 g78p10))) (eE := E6) (H' := (mkH [])) (by kernel_rfl) ?_
     refine oJ (f := fun (z3 : Bool) => if z3 then (j1 (fW .i64 (fW .i64 (fW .u8 (a0 - 65)) + 10))) else (j1 (-1))) g78p13 (fun (z3 : Bool) => [(0, .int .u8 a0), (1, .int .i64 a1), (5, .int .i64 (-1)), (23, .bool z3)]) (fun (z3 : Bool) => (mkH [])) (fun z3 => ?_) (fun j3 hj3 => ?_)
     ·refine oS 23 (b := z3) (by kernel_rfl) (fun hb => ?_) (fun hb => ?_)
      ·let E7 : Env := [(5, .int .i64 (fW .i64 (fW .i64 (fW .u8 (a0 - 65)) + 10))), (33, .int .i64 (fW .i64 (fW .i64 (fW .u8 (a0 - 65)) + 10))), (32, .int .i64 (fW .i64 (fW .u8 (a0 - 65)))), (31, .int .u8 (fW .u8 (a0 - 65))), (30, .int .u8 a0), (23, .bool true), (0, .int .u8 a0), (1, .int .i64 a1), (5, .int .i64 (-1)), (23, .bool z3)]
       refine oR 10 (p' := g78p6) (eE := E7) (H' := (mkH [])) (by kernel_rfl) ?_
       refine oK [1, 5] (eE := [(1, .int .i64 a1), (5, .int .i64 (fW .i64 (fW .i64 (fW .u8 (a0 - 65)) + 10)))]) (by kernel_rfl) ?_
       exact hj1 (fW .i64 (fW .i64 (fW .u8 (a0 - 65)) + 10))
      ·let E8 : Env := [(23, .bool false), (0, .int .u8 a0), (1, .int .i64 a1), (5, .int .i64 (-1)), (23, .bool z3)]
       refine oR 4 (p' := g78p6) (eE := E8) (H' := (mkH [])) (by kernel_rfl) ?_
       refine oK [1, 5] (eE := [(1, .int .i64 a1), (5, .int .i64 (-1))]) (by kernel_rfl) ?_
       exact hj1 (-1)
     ·refine oS 26 (b := decide (65 ≤ a0)) (by kernel_rfl) (fun hb => ?_) (fun hb => ?_)
      ·let E9 : Env := ((23, .bool (decide (a0 ≤ 90))) :: (29, .bool (decide (a0 ≤ 90))) :: (28, .bool (decide (a0 ≤ 90))) :: (27, .int .u8 a0) :: (26, .bool true) :: E6)
       refine oR 5 (p' := g78p13) (eE := E9) (H' := (mkH [])) (by kernel_rfl) ?_
       refine oK [0, 1, 5, 23] (eE := [(0, .int .u8 a0), (1, .int .i64 a1), (5, .int .i64 (-1)), (23, .bool (decide (a0 ≤ 90)))]) (by kernel_rfl) ?_
       exact hj3 (decide (a0 ≤ 90))
      ·let E10 : Env := ((23, .bool false) :: (29, .bool false) :: (28, .tuple []) :: (27, .tuple []) :: (26, .bool false) :: E6)
       refine oR 5 (p' := g78p13) (eE := E10) (H' := (mkH [])) (by kernel_rfl) ?_
       refine oK [0, 1, 5, 23] (eE := [(0, .int .u8 a0), (1, .int .i64 a1), (5, .int .i64 (-1)), (23, .bool false)]) (by kernel_rfl) ?_
       exact hj3 false
   ·refine oS 15 (b := decide (97 ≤ a0)) (by kernel_rfl) (fun hb => ?_) (fun hb => ?_)
    ·let E11 : Env := ((12, .bool (decide (a0 ≤ 122))) :: (18, .bool (decide (a0 ≤ 122))) :: (17, .bool (decide (a0 ≤ 122))) :: (16, .int .u8 a0) :: (15, .bool true) :: E4)
     refine oR 5 (p' := g78p7) (eE := E11) (H' := (mkH [])) (by kernel_rfl) ?_
     refine oK [0, 1, 5, 12] (eE := [(0, .int .u8 a0), (1, .int .i64 a1), (5, .int .i64 (-1)), (12, .bool (decide (a0 ≤ 122)))]) (by kernel_rfl) ?_
     exact hj2 (decide (a0 ≤ 122))
    ·let E12 : Env := ((12, .bool false) :: (18, .bool false) :: (17, .tuple []) :: (16, .tuple []) :: (15, .bool false) :: E4)
     refine oR 5 (p' := g78p7) (eE := E12) (H' := (mkH [])) (by kernel_rfl) ?_
     refine oK [0, 1, 5, 12] (eE := [(0, .int .u8 a0), (1, .int .i64 a1), (5, .int .i64 (-1)), (12, .bool false)]) (by kernel_rfl) ?_
     exact hj2 false
end
end Go.Proofs.Ytbmijiibfaacmaa.Am
set_option maxRecDepth 100000
set_option linter.unusedVariables false
namespace Go.Proofs.Ytbmijiibfaacmaa.Am
noncomputable section
open Go
def X76 : Fx Int := ⟨Try.prog, cx, Try.f76, fun r => .int .i64 r, 0, fun _ => H0, cxTi, cxOrd⟩
def g76p0 : Pt := nav [0] (bodyAt Try.f76)
def g76p1 : Pt := nav [0, 0, 0] g76p0
def g76p2 : Pt := nav [0, 0, 0, 0, 0] g76p1
def g76p3 : Pt := nav [0, 0, 0] g76p2
def g76p4 : Pt := nav [0, 0] g76p3
def g76p5 : Pt := nav [1, 0, 0, 0, 0] g76p4
def g76p6 : Pt := nav [2, 0, 0] g76p4
def g76p7 : Pt := nav [0, 0] g76p5
def g76_l1 (k : Nat)  (a0 : (List Nat)) (a1 : Int) (a2 : Int) (a3 : Bool) (n : Nat) : Int → Option Int :=
 Nat.rec (motive := fun _ => Int → Option Int) (fun _ => none) (fun _ ih => fun (y1_0 : Int) => jn (fun (z3 : Int) => some (fW .i64 (z3 - a1))) (fun j3 => if (decide (y1_0 < (a0.length : Int))) then ((nthS a0 y1_0).bind fun x0_2 => (g78 k x0_2 a2).bind fun x0_4 => jn (fun (z2 : Bool × Int) => if z2.1 then (j3 z2.2) else (ih (fW .i64 (z2.2 + 1)))) (fun j2 => if (decide (x0_4 < 0)) then (if a3 then ((nthS a0 y1_0).bind fun x0_11 => if (decide (x0_11 = 95)) then (if (decide (a1 < y1_0)) then ((nthS a0 (fW .i64 (y1_0 - 1))).bind fun x0_23 => if (!decide (x0_23 = 95)) then (if (decide (fW .i64 (y1_0 + 1) < (a0.length : Int))) then ((nthS a0 (fW .i64 (y1_0 + 1))).bind fun x0_37 => (g78 k x0_37 a2).bind fun x0_39 => j2 (!(decide (0 ≤ x0_39)), y1_0)) else (j2 (true, y1_0))) else (j2 (true, y1_0))) else (j2 (true, y1_0))) else (j2 (true, y1_0))) else (j2 (true, y1_0))) else (j2 (false, y1_0)))) else (j3 y1_0))) n
theorem g76_l1_s (k : Nat)  (a0 : (List Nat)) (a1 : Int) (a2 : Int) (a3 : Bool) (n : Nat) (y1_0 : Int) : g76_l1 k a0 a1 a2 a3 (n + 1) y1_0 = (jn (fun (z3 : Int) => some (fW .i64 (z3 - a1))) (fun j3 => if (decide (y1_0 < (a0.length : Int))) then ((nthS a0 y1_0).bind fun x0_2 => (g78 k x0_2 a2).bind fun x0_4 => jn (fun (z2 : Bool × Int) => if z2.1 then (j3 z2.2) else ((g76_l1 k a0 a1 a2 a3 n) (fW .i64 (z2.2 + 1)))) (fun j2 => if (decide (x0_4 < 0)) then (if a3 then ((nthS a0 y1_0).bind fun x0_11 => if (decide (x0_11 = 95)) then (if (decide (a1 < y1_0)) then ((nthS a0 (fW .i64 (y1_0 - 1))).bind fun x0_23 => if (!decide (x0_23 = 95)) then (if (decide (fW .i64 (y1_0 + 1) < (a0.length : Int))) then ((nthS a0 (fW .i64 (y1_0 + 1))).bind fun x0_37 => (g78 k x0_37 a2).bind fun x0_39 => j2 (!(decide (0 ≤ x0_39)), y1_0)) else (j2 (true, y1_0))) else (j2 (true, y1_0))) else (j2 (true, y1_0))) else (j2 (true, y1_0))) else (j2 (true, y1_0))) else (j2 (false, y1_0)))) else (j3 y1_0))) := rfl
theorem g76_l1_ok (k : Nat)  (a0 : (List Nat)) (a1 : Int) (a2 : Int) (a3 : Bool)  : ∀ (n : Nat) (y1_0 : Int), Ok X76 g76p2 [(0, .str a0), (1, .int .i64 a1), (2, .int .i64 a2), (3, .bool a3), (9, .int .i64 y1_0)] (mkH []) (g76_l1 k a0 a1 a2 a3 n y1_0)
 | 0, _ => ok_none
 | n + 1, y1_0 => by
  have ih := g76_l1_ok k a0 a1 a2 a3 n
  rw [g76_l1_s]
  refine ok_ent (p' := nav [0] g76p2) (by kernel_rfl) ?_
  let E2 : Env := [(14, .bool (decide (y1_0 < (a0.length : Int)))), (13, .int .i64 (a0.length : Int)), (12, .str a0), (11, .int .i64 y1_0), (0, .str a0), (1, .int .i64 a1), (2, .int .i64 a2), (3, .bool a3), (9, .int .i64 y1_0)]
  refine oR 8 (p' := g76p4) (eE := E2) (H' := (mkH [])) (by kernel_rfl) ?_
  refine oJ (f := fun (z3 : Int) => some (fW .i64 (z3 - a1))) g76p6 (fun (z3 : Int) => [(1, .int .i64 a1), (9, .int .i64 z3)]) (fun (z3 : Int) => (mkH [])) (fun z3 => ?_) (fun j3 hj3 => ?_)
  ·let E3 : Env := [(8, .int .i64 (fW .i64 (z3 - a1))), (63, .int .i64 (fW .i64 (z3 - a1))), (62, .int .i64 a1), (61, .int .i64 z3), (1, .int .i64 a1), (9, .int .i64 z3)]
   refine oR 7 (p' := .fin) (eE := E3) (H' := (mkH [])) (by kernel_rfl) ?_
   exact oT (r := (fW .i64 (z3 - a1))) (xs := [.int .i64 (fW .i64 (z3 - a1))]) (v := .int .i64 (fW .i64 (z3 - a1))) (by kernel_rfl) (by kernel_rfl) (by kernel_rfl) (.pures (by kernel_rfl)) (by kernel_rfl)
  ·refine oS 14 (b := decide (y1_0 < (a0.length : Int))) (by kernel_rfl) (fun hb => ?_) (fun hb => ?_)
   ·refine oR 8 (p' := (atN 2 (ctl1 g76p5))) (eE := ((16, .int .i64 y1_0) :: (15, .str a0) :: (14, .bool true) :: E2)) (H' := (mkH [])) (by kernel_rfl) ?_
    refine oH (fun (x0_2 : Int) => (.int .u8 x0_2, (mkH []))) (atN 3 (ctl1 g76p5)) (fun x0_2 => ((17, .int .u8 x0_2) :: (16, .int .i64 y1_0) :: (15, .str a0) :: (14, .bool true) :: E2)) (idxH (by kernel_rfl)) (fun _ => by kernel_rfl) (fun x0_2 hx0_2 => ?_)
    let E4 : Env := ((18, .int .i64 a2) :: (17, .int .u8 x0_2) :: (16, .int .i64 y1_0) :: (15, .str a0) :: (14, .bool true) :: E2)
    refine oR 1 (p' := (atN 4 (ctl1 g76p5))) (eE := E4) (H' := (mkH [])) (by kernel_rfl) ?_
    refine oC (fun (x0_4 : Int) => .int .i64 x0_4) (atN 5 (ctl1 g76p5)) (fun x0_4 => ((19, .int .i64 x0_4) :: E4)) (fi := 78) (args := [.int .u8 x0_2, .int .i64 a2]) (by kernel_rfl) (by kernel_rfl) (fun _ => by kernel_rfl) (fun r h => g78_ok k x0_2 a2 r h) (fun _ => by kernel_rfl) (fun x0_4 hx0_4 => ?_)
    refine oR 2 (p' := (atN 7 (ctl1 g76p5))) (eE := ((21, .bool (decide (x0_4 < 0))) :: (20, .bool (decide (x0_4 < 0))) :: (19, .int .i64 x0_4) :: E4)) (H' := (mkH [])) (by kernel_rfl) ?_
    refine oJ (f := fun (z2 : Bool × Int) => if z2.1 then (j3 z2.2) else ((g76_l1 k a0 a1 a2 a3 n) (fW .i64 (z2.2 + 1)))) g76p7 (fun (z2 : Bool × Int) => [(0, .str a0), (1, .int .i64 a1), (2, .int .i64 a2), (3, .bool a3), (9, .int .i64 z2.2), (58, .bool z2.1)]) (fun (z2 : Bool × Int) => (mkH [])) (fun z2 => ?_) (fun j2 hj2 => ?_)
    ·refine oS 58 (b := z2.1) (by kernel_rfl) (fun hb => ?_) (fun hb => ?_)
     ·let E5 : Env := [(58, .bool true), (0, .str a0), (1, .int .i64 a1), (2, .int .i64 a2), (3, .bool a3), (9, .int .i64 z2.2), (58, .bool z2.1)]
      refine oR 3 (p' := g76p6) (eE := E5) (H' := (mkH [])) (by kernel_rfl) ?_
      refine oK [1, 9] (eE := [(1, .int .i64 a1), (9, .int .i64 z2.2)]) (by kernel_rfl) ?_
      exact hj3 z2.2
     ·let E6 : Env := [(9, .int .i64 (fW .i64 (z2.2 + 1))), (60, .int .i64 (fW .i64 (z2.2 + 1))), (59, .int .i64 z2.2), (58, .bool false), (0, .str a0), (1, .int .i64 a1), (2, .int .i64 a2), (3, .bool a3), (9, .int .i64 z2.2), (58, .bool z2.1)]
      refine oR 7 (p' := g76p2) (eE := E6) (H' := (mkH [])) (by kernel_rfl) ?_
      refine oK [0, 1, 2, 3, 9] (eE := [(0, .str a0), (1, .int .i64 a1), (2, .int .i64 a2), (3, .bool a3), (9, .int .i64 (fW .i64 (z2.2 + 1)))]) (by kernel_rfl) ?_
      exact ih (fW .i64 (z2.2 + 1))
    ·refine oS 21 (b := decide (x0_4 < 0)) (by kernel_rfl) (fun hb => ?_) (fun hb => ?_)
     ·let E7 : Env := ((23, .bool a3) :: (22, .bool a3) :: (21, .bool true) :: (21, .bool (decide (x0_4 < 0))) :: (20, .bool (decide (x0_4 < 0))) :: (19, .int .i64 x0_4) :: E4)
      refine oR 2 (p' := (atN 9 (ctl1 g76p5))) (eE := E7) (H' := (mkH [])) (by kernel_rfl) ?_
      refine oS 23 (b := a3) (by kernel_rfl) (fun hb => ?_) (fun hb => ?_)
      ·refine oR 2 (p' := (atN 11 (ctl1 g76p5))) (eE := ((25, .int .i64 y1_0) :: (24, .str a0) :: (23, .bool true) :: E7)) (H' := (mkH [])) (by kernel_rfl) ?_
       refine oH (fun (x0_11 : Int) => (.int .u8 x0_11, (mkH []))) (atN 12 (ctl1 g76p5)) (fun x0_11 => ((26, .int .u8 x0_11) :: (25, .int .i64 y1_0) :: (24, .str a0) :: (23, .bool true) :: E7)) (idxH (by kernel_rfl)) (fun _ => by kernel_rfl) (fun x0_11 hx0_11 => ?_)
       let E8 : Env := ((29, .bool (decide (x0_11 = 95))) :: (28, .bool (decide (x0_11 = 95))) :: (27, .bool (decide (x0_11 = 95))) :: (26, .int .u8 x0_11) :: (25, .int .i64 y1_0) :: (24, .str a0) :: (23, .bool true) :: E7)
       refine oR 3 (p' := (atN 15 (ctl1 g76p5))) (eE := E8) (H' := (mkH [])) (by kernel_rfl) ?_
       refine oS 29 (b := decide (x0_11 = 95)) (by kernel_rfl) (fun hb => ?_) (fun hb => ?_)
       ·let E9 : Env := ((34, .bool (decide (a1 < y1_0))) :: (33, .bool (decide (a1 < y1_0))) :: (32, .bool (decide (a1 < y1_0))) :: (31, .int .i64 a1) :: (30, .int .i64 y1_0) :: (29, .bool true) :: E8)
        refine oR 5 (p' := (atN 20 (ctl1 g76p5))) (eE := E9) (H' := (mkH [])) (by kernel_rfl) ?_
        refine oS 34 (b := decide (a1 < y1_0)) (by kernel_rfl) (fun hb => ?_) (fun hb => ?_)
        ·refine oR 3 (p' := (atN 23 (ctl1 g76p5))) (eE := ((37, .int .i64 (fW .i64 (y1_0 - 1))) :: (36, .int .i64 y1_0) :: (35, .str a0) :: (34, .bool true) :: E9)) (H' := (mkH [])) (by kernel_rfl) ?_
         refine oH (fun (x0_23 : Int) => (.int .u8 x0_23, (mkH []))) (atN 24 (ctl1 g76p5)) (fun x0_23 => ((38, .int .u8 x0_23) :: (37, .int .i64 (fW .i64 (y1_0 - 1))) :: (36, .int .i64 y1_0) :: (35, .str a0) :: (34, .bool true) :: E9)) (idxH (by kernel_rfl)) (fun _ => by kernel_rfl) (fun x0_23 hx0_23 => ?_)
         let E10 : Env := ((41, .bool (!decide (x0_23 = 95))) :: (40, .bool (!decide (x0_23 = 95))) :: (39, .bool (!decide (x0_23 = 95))) :: (38, .int .u8 x0_23) :: (37, .int .i64 (fW .i64 (y1_0 - 1))) :: (36, .int .i64 y1_0) :: (35, .str a0) :: (34, .bool true) :: E9)
         refine oR 3 (p' := (atN 27 (ctl1 g76p5))) (eE := E10) (H' := (mkH [])) (by kernel_rfl) ?_
         refine oS 41 (b := !decide (x0_23 = 95)) (by kernel_rfl) (fun hb => ?_) (fun hb => ?_)
         ·let E11 : Env := ((48, .bool (decide (fW .i64 (y1_0 + 1) < (a0.length : Int)))) :: (47, .bool (decide (fW .i64 (y1_0 + 1) < (a0.length : Int)))) :: (46, .bool (decide (fW .i64 (y1_0 + 1) < (a0.length : Int)))) :: (45, .int .i64 (a0.length : Int)) :: (44, .str a0) :: (43, .int .i64 (fW .i64 (y1_0 + 1))) :: (42, .int .i64 y1_0) :: (41, .bool true) :: E10)
          refine oR 7 (p' := (atN 34 (ctl1 g76p5))) (eE := E11) (H' := (mkH [])) (by kernel_rfl) ?_
          refine oS 48 (b := decide (fW .i64 (y1_0 + 1) < (a0.length : Int))) (by kernel_rfl) (fun hb => ?_) (fun hb => ?_)
          ·refine oR 3 (p' := (atN 37 (ctl1 g76p5))) (eE := ((51, .int .i64 (fW .i64 (y1_0 + 1))) :: (50, .int .i64 y1_0) :: (49, .str a0) :: (48, .bool true) :: E11)) (H' := (mkH [])) (by kernel_rfl) ?_
           refine oH (fun (x0_37 : Int) => (.int .u8 x0_37, (mkH []))) (atN 38 (ctl1 g76p5)) (fun x0_37 => ((52, .int .u8 x0_37) :: (51, .int .i64 (fW .i64 (y1_0 + 1))) :: (50, .int .i64 y1_0) :: (49, .str a0) :: (48, .bool true) :: E11)) (idxH (by kernel_rfl)) (fun _ => by kernel_rfl) (fun x0_37 hx0_37 => ?_)
           let E12 : Env := ((53, .int .i64 a2) :: (52, .int .u8 x0_37) :: (51, .int .i64 (fW .i64 (y1_0 + 1))) :: (50, .int .i64 y1_0) :: (49, .str a0) :: (48, .bool true) :: E11)
           refine oR 1 (p' := (atN 39 (ctl1 g76p5))) (eE := E12) (H' := (mkH [])) (by kernel_rfl) ?_
           refine oC (fun (x0_39 : Int) => .int .i64 x0_39) (atN 40 (ctl1 g76p5)) (fun x0_39 => ((54, .int .i64 x0_39) :: E12)) (fi := 78) (args := [.int .u8 x0_37, .int .i64 a2]) (by kernel_rfl) (by kernel_rfl) (fun _ => by kernel_rfl) (fun r h => g78_ok k x0_37 a2 r h) (fun _ => by kernel_rfl) (fun x0_39 hx0_39 => ?_)
           let E13 : Env := ((58, .bool (!(decide (0 ≤ x0_39)))) :: (57, .bool (!(decide (0 ≤ x0_39)))) :: (56, .bool (decide (0 ≤ x0_39))) :: (55, .bool (decide (0 ≤ x0_39))) :: (54, .int .i64 x0_39) :: E12)
           refine oR 5 (p' := g76p7) (eE := E13) (H' := (mkH [])) (by kernel_rfl) ?_
           refine oK [0, 1, 2, 3, 9, 58] (eE := [(0, .str a0), (1, .int .i64 a1), (2, .int .i64 a2), (3, .bool a3), (9, .int .i64 y1_0), (58, .bool (!(decide (0 ≤ x0_39))))]) (by kernel_rfl) ?_
           exact hj2 (!(decide (0 ≤ x0_39)), y1_0)
          ·let E14 : Env := ((58, .bool true) :: (57, .bool true) :: (56, .bool false) :: (55, .tuple []) :: (54, .tuple []) :: (53, .tuple []) :: (52, .tuple []) :: (51, .tuple []) :: (50, .tuple []) :: (49, .tuple []) :: (48, .bool false) :: E11)
           refine oR 11 (p' := g76p7) (eE := E14) (H' := (mkH [])) (by kernel_rfl) ?_
           refine oK [0, 1, 2, 3, 9, 58] (eE := [(0, .str a0), (1, .int .i64 a1), (2, .int .i64 a2), (3, .bool a3), (9, .int .i64 y1_0), (58, .bool true)]) (by kernel_rfl) ?_
           exact hj2 (true, y1_0)
         ·let E15 : Env := ((58, .bool true) :: (57, .bool true) :: (56, .bool false) :: (55, .tuple []) :: (54, .tuple []) :: (53, .tuple []) :: (52, .tuple []) :: (51, .tuple []) :: (50, .tuple []) :: (49, .tuple []) :: (48, .bool false) :: (47, .bool false) :: (46, .tuple []) :: (45, .tuple []) :: (44, .tuple []) :: (43, .tuple []) :: (42, .tuple []) :: (41, .bool false) :: E10)
          refine oR 18 (p' := g76p7) (eE := E15) (H' := (mkH [])) (by kernel_rfl) ?_
          refine oK [0, 1, 2, 3, 9, 58] (eE := [(0, .str a0), (1, .int .i64 a1), (2, .int .i64 a2), (3, .bool a3), (9, .int .i64 y1_0), (58, .bool true)]) (by kernel_rfl) ?_
          exact hj2 (true, y1_0)
        ·let E16 : Env := ((58, .bool true) :: (57, .bool true) :: (56, .bool false) :: (55, .tuple []) :: (54, .tuple []) :: (53, .tuple []) :: (52, .tuple []) :: (51, .tuple []) :: (50, .tuple []) :: (49, .tuple []) :: (48, .bool false) :: (47, .bool false) :: (46, .tuple []) :: (45, .tuple []) :: (44, .tuple []) :: (43, .tuple []) :: (42, .tuple []) :: (41, .bool false) :: (40, .bool false) :: (39, .tuple []) :: (38, .tuple []) :: (37, .tuple []) :: (36, .tuple []) :: (35, .tuple []) :: (34, .bool false) :: E9)
         refine oR 25 (p' := g76p7) (eE := E16) (H' := (mkH [])) (by kernel_rfl) ?_
         refine oK [0, 1, 2, 3, 9, 58] (eE := [(0, .str a0), (1, .int .i64 a1), (2, .int .i64 a2), (3, .bool a3), (9, .int .i64 y1_0), (58, .bool true)]) (by kernel_rfl) ?_
         exact hj2 (true, y1_0)
       ·let E17 : Env := ((58, .bool true) :: (57, .bool true) :: (56, .bool false) :: (55, .tuple []) :: (54, .tuple []) :: (53, .tuple []) :: (52, .tuple []) :: (51, .tuple []) :: (50, .tuple []) :: (49, .tuple []) :: (48, .bool false) :: (47, .bool false) :: (46, .tuple []) :: (45, .tuple []) :: (44, .tuple []) :: (43, .tuple []) :: (42, .tuple []) :: (41, .bool false) :: (40, .bool false) :: (39, .tuple []) :: (38, .tuple []) :: (37, .tuple []) :: (36, .tuple []) :: (35, .tuple []) :: (34, .bool false) :: (33, .bool false) :: (32, .tuple []) :: (31, .tuple []) :: (30, .tuple []) :: (29, .bool false) :: E8)
        refine oR 30 (p' := g76p7) (eE := E17) (H' := (mkH [])) (by kernel_rfl) ?_
        refine oK [0, 1, 2, 3, 9, 58] (eE := [(0, .str a0), (1, .int .i64 a1), (2, .int .i64 a2), (3, .bool a3), (9, .int .i64 y1_0), (58, .bool true)]) (by kernel_rfl) ?_
        exact hj2 (true, y1_0)
      ·let E18 : Env := ((58, .bool true) :: (57, .bool true) :: (56, .bool false) :: (55, .tuple []) :: (54, .tuple []) :: (53, .tuple []) :: (52, .tuple []) :: (51, .tuple []) :: (50, .tuple []) :: (49, .tuple []) :: (48, .bool false) :: (47, .bool false) :: (46, .tuple []) :: (45, .tuple []) :: (44, .tuple []) :: (43, .tuple []) :: (42, .tuple []) :: (41, .bool false) :: (40, .bool false) :: (39, .tuple []) :: (38, .tuple []) :: (37, .tuple []) :: (36, .tuple []) :: (35, .tuple []) :: (34, .bool false) :: (33, .bool false) :: (32, .tuple []) :: (31, .tuple []) :: (30, .tuple []) :: (29, .bool false) :: (28, .bool false) :: (27, .tuple []) :: (26, .tuple []) :: (25, .tuple []) :: (24, .tuple []) :: (23, .bool false) :: E7)
       refine oR 36 (p' := g76p7) (eE := E18) (H' := (mkH [])) (by kernel_rfl) ?_
       refine oK [0, 1, 2, 3, 9, 58] (eE := [(0, .str a0), (1, .int .i64 a1), (2, .int .i64 a2), (3, .bool a3), (9, .int .i64 y1_0), (58, .bool true)]) (by kernel_rfl) ?_
       exact hj2 (true, y1_0)
     ·let E19 : Env := ((58, .bool false) :: (57, .tuple []) :: (56, .tuple []) :: (55, .tuple []) :: (54, .tuple []) :: (53, .tuple []) :: (52, .tuple []) :: (51, .tuple []) :: (50, .tuple []) :: (49, .tuple []) :: (48, .tuple []) :: (47, .tuple []) :: (46, .tuple []) :: (45, .tuple []) :: (44, .tuple []) :: (43, .tuple []) :: (42, .tuple []) :: (41, .tuple []) :: (40, .tuple []) :: (39, .tuple []) :: (38, .tuple []) :: (37, .tuple []) :: (36, .tuple []) :: (35, .tuple []) :: (34, .tuple []) :: (33, .tuple []) :: (32, .tuple []) :: (31, .tuple []) :: (30, .tuple []) :: (29, .tuple []) :: (28, .tuple []) :: (27, .tuple []) :: (26, .tuple []) :: (25, .tuple []) :: (24, .tuple []) :: (23, .tuple []) :: (22, .tuple []) :: (21, .bool false) :: (21, .bool (decide (x0_4 < 0))) :: (20, .bool (decide (x0_4 < 0))) :: (19, .int .i64 x0_4) :: E4)
      refine oR 38 (p' := g76p7) (eE := E19) (H' := (mkH [])) (by kernel_rfl) ?_
      refine oK [0, 1, 2, 3, 9, 58] (eE := [(0, .str a0), (1, .int .i64 a1), (2, .int .i64 a2), (3, .bool a3), (9, .int .i64 y1_0), (58, .bool false)]) (by kernel_rfl) ?_
      exact hj2 (false, y1_0)
   ·refine oR 3 (p' := g76p6) (eE := ((14, .bool false) :: E2)) (H' := (mkH [])) (by kernel_rfl) ?_
    refine oK [1, 9] (eE := [(1, .int .i64 a1), (9, .int .i64 y1_0)]) (by kernel_rfl) ?_
    exact hj3 y1_0
def g76 (k : Nat) (a0 : (List Nat)) (a1 : Int) (a2 : Int) (a3 : Bool) : Option Int :=
 g76_l1 k a0 a1 a2 a3 k a1
theorem g76_ok (k : Nat) (a0 : (List Nat)) (a1 : Int) (a2 : Int) (a3 : Bool) (r : Int) (h : g76 k a0 a1 a2 a3 = some r) : PureOk Try.prog 76 [.str a0, .int .i64 a1, .int .i64 a2, .bool a3] (.int .i64 r) := by
 refine pure_of X76 (fun _ => rfl) Try.func76 (by decide +kernel) (by kernel_rfl) (t := g76 k a0 a1 a2 a3) ?_ h
 unfold g76
 refine oE (eE := [(0, .str a0), (1, .int .i64 a1), (2, .int .i64 a2), (3, .bool a3)]) (by kernel_rfl) ?_
 let E1 : Env := [(9, .int .i64 a1), (10, .int .i64 a1), (8, .int .i64 0), (0, .str a0), (1, .int .i64 a1), (2, .int .i64 a2), (3, .bool a3)]
 refine oR 12 (p' := g76p2) (eE := E1) (H' := (mkH [])) (by kernel_rfl) ?_
 refine oK [0, 1, 2, 3, 9] (eE := [(0, .str a0), (1, .int .i64 a1), (2, .int .i64 a2), (3, .bool a3), (9, .int .i64 a1)]) (by kernel_rfl) ?_
 exact (g76_l1_ok k a0 a1 a2 a3 k) a1
end
end Go.Proofs.Ytbmijiibfaacmaa.Am
set_option maxRecDepth 100000
set_option linter.unusedVariables false
namespace Go.Proofs.Ytbmijiibfaacmaa.Am
noncomputable section
open Go
def X72 : Fx Int := ⟨Try.prog, cx, Try.f72, fun r => .int .i64 r, 0, fun _ => H0, cxTi, cxOrd⟩
def g72p0 : Pt := nav [0] (bodyAt Try.f72)
def g72p1 : Pt := nav [0, 0, 0] g72p0
def g72p2 : Pt := nav [0, 0, 0, 0] g72p1
def g72p3 : Pt := nav [0, 0] g72p2
def g72p5 : Pt := nav [2, 0, 0] g72p3
def g72p7 : Pt := nav [0, 0, 0, 0] g72p5
def g72p8 : Pt := nav [0, 0] g72p7
def g72p10 : Pt := nav [2, 0, 0] g72p8
def g72p11 : Pt := nav [0, 0, 0, 0] g72p10
def g72p12 : Pt := nav [0, 0] g72p11
def g72p13 : Pt := nav [1, 0] g72p12
def g72p14 : Pt := nav [2, 0, 0] g72p12
def g72p15 : Pt := nav [0, 0, 0, 0] g72p13
def g72p16 : Pt := nav [0, 0] g72p15
def g72p18 : Pt := nav [2, 0, 0] g72p16
def g72p19 : Pt := nav [0, 0, 0] g72p18
def g72p20 : Pt := nav [0, 0] g72p19
def g72 (k : Nat) (a0 : (List Nat)) (a1 : Int) : Option Int :=
 (g76 k a0 a1 (10 : Int) true).bind fun x0_3 => jn (fun (z6 : Bool) => if z6 then (some (0 : Int)) else ((g76 k a0 (fW .i64 (fW .i64 (a1 + x0_3) + 1)) (10 : Int) true).bind fun x2_3 => if (decide (x2_3 = 0)) then (some (0 : Int)) else (jn (fun (z7 : Bool) => jn (fun (z9 : Int) => some (fW .i64 (z9 - a1))) (fun j9 => if z7 then (jn (fun (z8 : Bool) => jn (fun (z10 : Int) => (g76 k a0 z10 (10 : Int) true).bind fun x5_2 => if (decide (0 < x5_2)) then (j9 (fW .i64 (z10 + x5_2))) else (j9 (fW .i64 (fW .i64 (fW .i64 (a1 + x0_3) + 1) + x2_3)))) (fun j10 => if z8 then (j10 (fW .i64 (fW .i64 (fW .i64 (fW .i64 (fW .i64 (a1 + x0_3) + 1) + x2_3) + 1) + 1))) else (j10 (fW .i64 (fW .i64 (fW .i64 (fW .i64 (a1 + x0_3) + 1) + x2_3) + 1))))) (fun j8 => if (decide (fW .i64 (fW .i64 (fW .i64 (fW .i64 (a1 + x0_3) + 1) + x2_3) + 1) < (a0.length : Int))) then ((nthS a0 (fW .i64 (fW .i64 (fW .i64 (fW .i64 (a1 + x0_3) + 1) + x2_3) + 1))).bind fun x4_7 => if (decide (x4_7 = 43)) then (j8 true) else ((nthS a0 (fW .i64 (fW .i64 (fW .i64 (fW .i64 (a1 + x0_3) + 1) + x2_3) + 1))).bind fun x4_12 => j8 (decide (x4_12 = 45)))) else (j8 false))) else (j9 (fW .i64 (fW .i64 (fW .i64 (a1 + x0_3) + 1) + x2_3))))) (fun j7 => if (decide (fW .i64 (fW .i64 (fW .i64 (a1 + x0_3) + 1) + x2_3) < (a0.length : Int))) then ((nthS a0 (fW .i64 (fW .i64 (fW .i64 (a1 + x0_3) + 1) + x2_3))).bind fun x3_7 => if (decide (x3_7 = 101)) then (j7 true) else ((nthS a0 (fW .i64 (fW .i64 (fW .i64 (a1 + x0_3) + 1) + x2_3))).bind fun x3_12 => j7 (decide (x3_12 = 69)))) else (j7 false))))) (fun j6 => if (decide (fW .i64 (a1 + x0_3) = a1)) then (j6 true) else (if (decide ((a0.length : Int) ≤ fW .i64 (a1 + x0_3))) then (j6 true) else ((nthS a0 (fW .i64 (a1 + x0_3))).bind fun x1_12 => j6 (!decide (x1_12 = 46)))))
theorem g72_ok (k : Nat) (a0 : (List Nat)) (a1 : Int) (r : Int) (h : g72 k a0 a1 = some r) : PureOk Try.prog 72 [.str a0, .int .i64 a1] (.int .i64 r) := by
 refine pure_of X72 (fun _ => rfl) Try.func72 (by decide +kernel) (by kernel_rfl) (t := g72 k a0 a1) ?_ h
 unfold g72
 refine oE (eE := [(0, .str a0), (1, .int .i64 a1)]) (by kernel_rfl) ?_
 let E1 : Env := [(11, .int .i64 a1), (10, .str a0), (9, .int .i64 a1), (4, .int .i64 0), (0, .str a0), (1, .int .i64 a1)]
 refine oR 9 (p' := (atN 3 (ctl1 g72p1))) (eE := E1) (H' := (mkH [])) (by kernel_rfl) ?_
 refine oC (fun (x0_3 : Int) => .int .i64 x0_3) (atN 4 (ctl1 g72p1)) (fun x0_3 => ((12, .int .i64 x0_3) :: E1)) (fi := 76) (args := [.str a0, .int .i64 a1, .int .i64 10, .bool true]) (by kernel_rfl) (by kernel_rfl) (fun _ => by kernel_rfl) (fun r h => g76_ok k a0 a1 (10 : Int) true r h) (fun _ => by kernel_rfl) (fun x0_3 hx0_3 => ?_)
 let E2 : Env := ((17, .bool (decide (fW .i64 (a1 + x0_3) = a1))) :: (16, .bool (decide (fW .i64 (a1 + x0_3) = a1))) :: (15, .int .i64 a1) :: (14, .int .i64 (fW .i64 (a1 + x0_3))) :: (5, .int .i64 (fW .i64 (a1 + x0_3))) :: (13, .int .i64 (fW .i64 (a1 + x0_3))) :: (12, .int .i64 x0_3) :: E1)
 refine oR 10 (p' := (atN 4 (ctl1 g72p2))) (eE := E2) (H' := (mkH [])) (by kernel_rfl) ?_
 refine oJ (f := fun (z6 : Bool) => if z6 then (some (0 : Int)) else ((g76 k a0 (fW .i64 (fW .i64 (a1 + x0_3) + 1)) (10 : Int) true).bind fun x2_3 => if (decide (x2_3 = 0)) then (some (0 : Int)) else (jn (fun (z7 : Bool) => jn (fun (z9 : Int) => some (fW .i64 (z9 - a1))) (fun j9 => if z7 then (jn (fun (z8 : Bool) => jn (fun (z10 : Int) => (g76 k a0 z10 (10 : Int) true).bind fun x5_2 => if (decide (0 < x5_2)) then (j9 (fW .i64 (z10 + x5_2))) else (j9 (fW .i64 (fW .i64 (fW .i64 (a1 + x0_3) + 1) + x2_3)))) (fun j10 => if z8 then (j10 (fW .i64 (fW .i64 (fW .i64 (fW .i64 (fW .i64 (a1 + x0_3) + 1) + x2_3) + 1) + 1))) else (j10 (fW .i64 (fW .i64 (fW .i64 (fW .i64 (a1 + x0_3) + 1) + x2_3) + 1))))) (fun j8 => if (decide (fW .i64 (fW .i64 (fW .i64 (fW .i64 (a1 + x0_3) + 1) + x2_3) + 1) < (a0.length : Int))) then ((nthS a0 (fW .i64 (fW .i64 (fW .i64 (fW .i64 (a1 + x0_3) + 1) + x2_3) + 1))).bind fun x4_7 => if (decide (x4_7 = 43)) then (j8 true) else ((nthS a0 (fW .i64 (fW .i64 (fW .i64 (fW .i64 (a1 + x0_3) + 1) + x2_3) + 1))).bind fun x4_12 => j8 (decide (x4_12 = 45)))) else (j8 false))) else (j9 (fW .i64 (fW .i64 (fW .i64 (a1 + x0_3) + 1) + x2_3))))) (fun j7 => if (decide (fW .i64 (fW .i64 (fW .i64 (a1 + x0_3) + 1) + x2_3) < (a0.length : Int))) then ((nthS a0 (fW .i64 (fW .i64 (fW .i64 (a1 + x0_3) + 1) + x2_3))).bind fun x3_7 => if (decide (x3_7 = 101)) then (j7 true) else ((nthS a0 (fW .i64 (fW .i64 (fW .i64 (a1 + x0_3) + 1) + x2_3))).bind fun x3_12 => j7 (decide (x3_12 = 69)))) else (j7 false))))) g72p3 (fun (z6 : Bool) => [(0, .str a0), (1, .int .i64 a1), (5, .int .i64 (fW .i64 (a1 + x0_3))), (28, .bool z6)]) (fun (z6 : Bool) => (mkH [])) (fun z6 => ?_) (fun j6 hj6 => ?_)
 ·refine oS 28 (b := z6) (by kernel_rfl) (fun hb => ?_) (fun hb => ?_)
  ·let E3 : Env := [(4, .int .i64 0), (28, .bool true), (0, .str a0), (1, .int .i64 a1), (5, .int .i64 (fW .i64 (a1 + x0_3))), (28, .bool z6)]
   refine oR 6 (p' := .fin) (eE := E3) (H' := (mkH [])) (by kernel_rfl) ?_
   exact oT (r := (0 : Int)) (xs := [.int .i64 0]) (v := .int .i64 0) (by kernel_rfl) (by kernel_rfl) (by kernel_rfl) (.pures (by kernel_rfl)) (by kernel_rfl)
  ·let E4 : Env := [(31, .int .i64 (fW .i64 (fW .i64 (a1 + x0_3) + 1))), (30, .int .i64 (fW .i64 (a1 + x0_3))), (29, .str a0), (28, .bool false), (0, .str a0), (1, .int .i64 a1), (5, .int .i64 (fW .i64 (a1 + x0_3))), (28, .bool z6)]
   refine oR 7 (p' := (atN 3 (ctl1 g72p5))) (eE := E4) (H' := (mkH [])) (by kernel_rfl) ?_
   refine oC (fun (x2_3 : Int) => .int .i64 x2_3) (atN 4 (ctl1 g72p5)) (fun x2_3 => ((32, .int .i64 x2_3) :: E4)) (fi := 76) (args := [.str a0, .int .i64 (fW .i64 (fW .i64 (a1 + x0_3) + 1)), .int .i64 10, .bool true]) (by kernel_rfl) (by kernel_rfl) (fun _ => by kernel_rfl) (fun r h => g76_ok k a0 (fW .i64 (fW .i64 (a1 + x0_3) + 1)) (10 : Int) true r h) (fun _ => by kernel_rfl) (fun x2_3 hx2_3 => ?_)
   refine oR 8 (p' := g72p8) (eE := ((34, .bool (decide (x2_3 = 0))) :: (33, .int .i64 x2_3) :: (6, .int .i64 x2_3) :: (32, .int .i64 x2_3) :: E4)) (H' := (mkH [])) (by kernel_rfl) ?_
   refine oK [0, 1, 5, 6, 34] (eE := [(0, .str a0), (1, .int .i64 a1), (5, .int .i64 (fW .i64 (a1 + x0_3))), (6, .int .i64 x2_3), (34, .bool (decide (x2_3 = 0)))]) (by kernel_rfl) ?_
   refine oS 34 (b := decide (x2_3 = 0)) (by kernel_rfl) (fun hb => ?_) (fun hb => ?_)
   ·let E5 : Env := [(4, .int .i64 0), (34, .bool true), (0, .str a0), (1, .int .i64 a1), (5, .int .i64 (fW .i64 (a1 + x0_3))), (6, .int .i64 x2_3), (34, .bool (decide (x2_3 = 0)))]
    refine oR 6 (p' := .fin) (eE := E5) (H' := (mkH [])) (by kernel_rfl) ?_
    exact oT (r := (0 : Int)) (xs := [.int .i64 0]) (v := .int .i64 0) (by kernel_rfl) (by kernel_rfl) (by kernel_rfl) (.pures (by kernel_rfl)) (by kernel_rfl)
   ·let E6 : Env := [(5, .int .i64 (fW .i64 (fW .i64 (fW .i64 (a1 + x0_3) + 1) + x2_3))), (38, .int .i64 (fW .i64 (fW .i64 (fW .i64 (a1 + x0_3) + 1) + x2_3))), (37, .int .i64 x2_3), (36, .int .i64 (fW .i64 (fW .i64 (a1 + x0_3) + 1))), (35, .int .i64 (fW .i64 (a1 + x0_3))), (34, .bool false), (0, .str a0), (1, .int .i64 a1), (5, .int .i64 (fW .i64 (a1 + x0_3))), (6, .int .i64 x2_3), (34, .bool (decide (x2_3 = 0)))]
    refine oR 12 (p' := g72p11) (eE := E6) (H' := (mkH [])) (by kernel_rfl) ?_
    refine oK [0, 1, 5] (eE := [(0, .str a0), (1, .int .i64 a1), (5, .int .i64 (fW .i64 (fW .i64 (fW .i64 (a1 + x0_3) + 1) + x2_3)))]) (by kernel_rfl) ?_
    let E7 : Env := [(43, .bool (decide (fW .i64 (fW .i64 (fW .i64 (a1 + x0_3) + 1) + x2_3) < (a0.length : Int)))), (42, .bool (decide (fW .i64 (fW .i64 (fW .i64 (a1 + x0_3) + 1) + x2_3) < (a0.length : Int)))), (41, .int .i64 (a0.length : Int)), (40, .str a0), (39, .int .i64 (fW .i64 (fW .i64 (fW .i64 (a1 + x0_3) + 1) + x2_3))), (0, .str a0), (1, .int .i64 a1), (5, .int .i64 (fW .i64 (fW .i64 (fW .i64 (a1 + x0_3) + 1) + x2_3)))]
    refine oR 6 (p' := (atN 5 (ctl1 g72p11))) (eE := E7) (H' := (mkH [])) (by kernel_rfl) ?_
    refine oJ (f := fun (z7 : Bool) => jn (fun (z9 : Int) => some (fW .i64 (z9 - a1))) (fun j9 => if z7 then (jn (fun (z8 : Bool) => jn (fun (z10 : Int) => (g76 k a0 z10 (10 : Int) true).bind fun x5_2 => if (decide (0 < x5_2)) then (j9 (fW .i64 (z10 + x5_2))) else (j9 (fW .i64 (fW .i64 (fW .i64 (a1 + x0_3) + 1) + x2_3)))) (fun j10 => if z8 then (j10 (fW .i64 (fW .i64 (fW .i64 (fW .i64 (fW .i64 (a1 + x0_3) + 1) + x2_3) + 1) + 1))) else (j10 (fW .i64 (fW .i64 (fW .i64 (fW .i64 (a1 + x0_3) + 1) + x2_3) + 1))))) (fun j8 => if (decide (fW .i64 (fW .i64 (fW .i64 (fW .i64 (a1 + x0_3) + 1) + x2_3) + 1) < (a0.length : Int))) then ((nthS a0 (fW .i64 (fW .i64 (fW .i64 (fW .i64 (a1 + x0_3) + 1) + x2_3) + 1))).bind fun x4_7 => if (decide (x4_7 = 43)) then (j8 true) else ((nthS a0 (fW .i64 (fW .i64 (fW .i64 (fW .i64 (a1 + x0_3) + 1) + x2_3) + 1))).bind fun x4_12 => j8 (decide (x4_12 = 45)))) else (j8 false))) else (j9 (fW .i64 (fW .i64 (fW .i64 (a1 + x0_3) + 1) + x2_3))))) g72p12 (fun (z7 : Bool) => [(0, .str a0), (1, .int .i64 a1), (5, .int .i64 (fW .i64 (fW .i64 (fW .i64 (a1 + x0_3) + 1) + x2_3))), (54, .bool z7)]) (fun (z7 : Bool) => (mkH [])) (fun z7 => ?_) (fun j7 hj7 => ?_)
    ·refine oJ (f := fun (z9 : Int) => some (fW .i64 (z9 - a1))) g72p14 (fun (z9 : Int) => [(1, .int .i64 a1), (5, .int .i64 z9)]) (fun (z9 : Int) => (mkH [])) (fun z9 => ?_) (fun j9 hj9 => ?_)
     ·let E8 : Env := [(4, .int .i64 (fW .i64 (z9 - a1))), (85, .int .i64 (fW .i64 (z9 - a1))), (84, .int .i64 a1), (83, .int .i64 z9), (1, .int .i64 a1), (5, .int .i64 z9)]
      refine oR 7 (p' := .fin) (eE := E8) (H' := (mkH [])) (by kernel_rfl) ?_
      exact oT (r := (fW .i64 (z9 - a1))) (xs := [.int .i64 (fW .i64 (z9 - a1))]) (v := .int .i64 (fW .i64 (z9 - a1))) (by kernel_rfl) (by kernel_rfl) (by kernel_rfl) (.pures (by kernel_rfl)) (by kernel_rfl)
     ·refine oS 54 (b := z7) (by kernel_rfl) (fun hb => ?_) (fun hb => ?_)
      ·let E9 : Env := [(61, .bool (decide (fW .i64 (fW .i64 (fW .i64 (fW .i64 (a1 + x0_3) + 1) + x2_3) + 1) < (a0.length : Int)))), (60, .bool (decide (fW .i64 (fW .i64 (fW .i64 (fW .i64 (a1 + x0_3) + 1) + x2_3) + 1) < (a0.length : Int)))), (59, .int .i64 (a0.length : Int)), (58, .str a0), (57, .int .i64 (fW .i64 (fW .i64 (fW .i64 (fW .i64 (a1 + x0_3) + 1) + x2_3) + 1))), (7, .int .i64 (fW .i64 (fW .i64 (fW .i64 (fW .i64 (a1 + x0_3) + 1) + x2_3) + 1))), (56, .int .i64 (fW .i64 (fW .i64 (fW .i64 (fW .i64 (a1 + x0_3) + 1) + x2_3) + 1))), (55, .int .i64 (fW .i64 (fW .i64 (fW .i64 (a1 + x0_3) + 1) + x2_3))), (54, .bool true), (0, .str a0), (1, .int .i64 a1), (5, .int .i64 (fW .i64 (fW .i64 (fW .i64 (a1 + x0_3) + 1) + x2_3))), (54, .bool z7)]
       refine oR 15 (p' := (atN 5 (ctl1 g72p15))) (eE := E9) (H' := (mkH [])) (by kernel_rfl) ?_
       refine oJ (f := fun (z8 : Bool) => jn (fun (z10 : Int) => (g76 k a0 z10 (10 : Int) true).bind fun x5_2 => if (decide (0 < x5_2)) then (j9 (fW .i64 (z10 + x5_2))) else (j9 (fW .i64 (fW .i64 (fW .i64 (a1 + x0_3) + 1) + x2_3)))) (fun j10 => if z8 then (j10 (fW .i64 (fW .i64 (fW .i64 (fW .i64 (fW .i64 (a1 + x0_3) + 1) + x2_3) + 1) + 1))) else (j10 (fW .i64 (fW .i64 (fW .i64 (fW .i64 (a1 + x0_3) + 1) + x2_3) + 1))))) g72p16 (fun (z8 : Bool) => [(0, .str a0), (1, .int .i64 a1), (5, .int .i64 (fW .i64 (fW .i64 (fW .i64 (a1 + x0_3) + 1) + x2_3))), (7, .int .i64 (fW .i64 (fW .i64 (fW .i64 (fW .i64 (a1 + x0_3) + 1) + x2_3) + 1))), (72, .bool z8)]) (fun (z8 : Bool) => (mkH [])) (fun z8 => ?_) (fun j8 hj8 => ?_)
       ·refine oJ (f := fun (z10 : Int) => (g76 k a0 z10 (10 : Int) true).bind fun x5_2 => if (decide (0 < x5_2)) then (j9 (fW .i64 (z10 + x5_2))) else (j9 (fW .i64 (fW .i64 (fW .i64 (a1 + x0_3) + 1) + x2_3)))) g72p18 (fun (z10 : Int) => [(0, .str a0), (1, .int .i64 a1), (5, .int .i64 (fW .i64 (fW .i64 (fW .i64 (a1 + x0_3) + 1) + x2_3))), (7, .int .i64 z10)]) (fun (z10 : Int) => (mkH [])) (fun z10 => ?_) (fun j10 hj10 => ?_)
        ·let E10 : Env := [(76, .int .i64 z10), (75, .str a0), (0, .str a0), (1, .int .i64 a1), (5, .int .i64 (fW .i64 (fW .i64 (fW .i64 (a1 + x0_3) + 1) + x2_3))), (7, .int .i64 z10)]
         refine oR 3 (p' := (atN 2 (ctl1 g72p18))) (eE := E10) (H' := (mkH [])) (by kernel_rfl) ?_
         refine oC (fun (x5_2 : Int) => .int .i64 x5_2) (atN 3 (ctl1 g72p18)) (fun x5_2 => ((77, .int .i64 x5_2) :: E10)) (fi := 76) (args := [.str a0, .int .i64 z10, .int .i64 10, .bool true]) (by kernel_rfl) (by kernel_rfl) (fun _ => by kernel_rfl) (fun r h => g76_ok k a0 z10 (10 : Int) true r h) (fun _ => by kernel_rfl) (fun x5_2 hx5_2 => ?_)
         refine oR 7 (p' := g72p20) (eE := ((79, .bool (decide (0 < x5_2))) :: (78, .int .i64 x5_2) :: (8, .int .i64 x5_2) :: (77, .int .i64 x5_2) :: E10)) (H' := (mkH [])) (by kernel_rfl) ?_
         refine oS 79 (b := decide (0 < x5_2)) (by kernel_rfl) (fun hb => ?_) (fun hb => ?_)
         ·let E11 : Env := ((5, .int .i64 (fW .i64 (z10 + x5_2))) :: (82, .int .i64 (fW .i64 (z10 + x5_2))) :: (81, .int .i64 x5_2) :: (80, .int .i64 z10) :: (79, .bool true) :: (79, .bool (decide (0 < x5_2))) :: (78, .int .i64 x5_2) :: (8, .int .i64 x5_2) :: (77, .int .i64 x5_2) :: E10)
          refine oR 8 (p' := g72p14) (eE := E11) (H' := (mkH [])) (by kernel_rfl) ?_
          refine oK [1, 5] (eE := [(1, .int .i64 a1), (5, .int .i64 (fW .i64 (z10 + x5_2)))]) (by kernel_rfl) ?_
          exact hj9 (fW .i64 (z10 + x5_2))
         ·let E12 : Env := ((79, .bool false) :: (79, .bool (decide (0 < x5_2))) :: (78, .int .i64 x5_2) :: (8, .int .i64 x5_2) :: (77, .int .i64 x5_2) :: E10)
          refine oR 3 (p' := g72p14) (eE := E12) (H' := (mkH [])) (by kernel_rfl) ?_
          refine oK [1, 5] (eE := [(1, .int .i64 a1), (5, .int .i64 (fW .i64 (fW .i64 (fW .i64 (a1 + x0_3) + 1) + x2_3)))]) (by kernel_rfl) ?_
          exact hj9 (fW .i64 (fW .i64 (fW .i64 (a1 + x0_3) + 1) + x2_3))
        ·refine oS 72 (b := z8) (by kernel_rfl) (fun hb => ?_) (fun hb => ?_)
         ·let E13 : Env := [(7, .int .i64 (fW .i64 (fW .i64 (fW .i64 (fW .i64 (fW .i64 (a1 + x0_3) + 1) + x2_3) + 1) + 1))), (74, .int .i64 (fW .i64 (fW .i64 (fW .i64 (fW .i64 (fW .i64 (a1 + x0_3) + 1) + x2_3) + 1) + 1))), (73, .int .i64 (fW .i64 (fW .i64 (fW .i64 (fW .i64 (a1 + x0_3) + 1) + x2_3) + 1))), (72, .bool true), (0, .str a0), (1, .int .i64 a1), (5, .int .i64 (fW .i64 (fW .i64 (fW .i64 (a1 + x0_3) + 1) + x2_3))), (7, .int .i64 (fW .i64 (fW .i64 (fW .i64 (fW .i64 (a1 + x0_3) + 1) + x2_3) + 1))), (72, .bool z8)]
          refine oR 7 (p' := g72p18) (eE := E13) (H' := (mkH [])) (by kernel_rfl) ?_
          refine oK [0, 1, 5, 7] (eE := [(0, .str a0), (1, .int .i64 a1), (5, .int .i64 (fW .i64 (fW .i64 (fW .i64 (a1 + x0_3) + 1) + x2_3))), (7, .int .i64 (fW .i64 (fW .i64 (fW .i64 (fW .i64 (fW .i64 (a1 + x0_3) + 1) + x2_3) + 1) + 1)))]) (by kernel_rfl) ?_
          exact hj10 (fW .i64 (fW .i64 (fW .i64 (fW .i64 (fW .i64 (a1 + x0_3) + 1) + x2_3) + 1) + 1))
         ·let E14 : Env := [(72, .bool false), (0, .str a0), (1, .int .i64 a1), (5, .int .i64 (fW .i64 (fW .i64 (fW .i64 (a1 + x0_3) + 1) + x2_3))), (7, .int .i64 (fW .i64 (fW .i64 (fW .i64 (fW .i64 (a1 + x0_3) + 1) + x2_3) + 1))), (72, .bool z8)]
          refine oR 3 (p' := g72p18) (eE := E14) (H' := (mkH [])) (by kernel_rfl) ?_
          refine oK [0, 1, 5, 7] (eE := [(0, .str a0), (1, .int .i64 a1), (5, .int .i64 (fW .i64 (fW .i64 (fW .i64 (a1 + x0_3) + 1) + x2_3))), (7, .int .i64 (fW .i64 (fW .i64 (fW .i64 (fW .i64 (a1 + x0_3) + 1) + x2_3) + 1)))]) (by kernel_rfl) ?_
          exact hj10 (fW .i64 (fW .i64 (fW .i64 (fW .i64 (a1 + x0_3) + 1) + x2_3) + 1))
       ·refine oS 61 (b := decide (fW .i64 (fW .i64 (fW .i64 (fW .i64 (a1 + x0_3) + 1) + x2_3) + 1) < (a0.length : Int))) (by kernel_rfl) (fun hb => ?_) (fun hb => ?_)
        ·refine oR 2 (p' := (atN 7 (ctl1 g72p15))) (eE := ((63, .int .i64 (fW .i64 (fW .i64 (fW .i64 (fW .i64 (a1 + x0_3) + 1) + x2_3) + 1))) :: (62, .str a0) :: (61, .bool true) :: E9)) (H' := (mkH [])) (by kernel_rfl) ?_
         refine oH (fun (x4_7 : Int) => (.int .u8 x4_7, (mkH []))) (atN 8 (ctl1 g72p15)) (fun x4_7 => ((64, .int .u8 x4_7) :: (63, .int .i64 (fW .i64 (fW .i64 (fW .i64 (fW .i64 (a1 + x0_3) + 1) + x2_3) + 1))) :: (62, .str a0) :: (61, .bool true) :: E9)) (idxH (by kernel_rfl)) (fun _ => by kernel_rfl) (fun x4_7 hx4_7 => ?_)
         let E15 : Env := ((66, .bool (decide (x4_7 = 43))) :: (65, .bool (decide (x4_7 = 43))) :: (64, .int .u8 x4_7) :: (63, .int .i64 (fW .i64 (fW .i64 (fW .i64 (fW .i64 (a1 + x0_3) + 1) + x2_3) + 1))) :: (62, .str a0) :: (61, .bool true) :: E9)
         refine oR 2 (p' := (atN 10 (ctl1 g72p15))) (eE := E15) (H' := (mkH [])) (by kernel_rfl) ?_
         refine oS 66 (b := decide (x4_7 = 43)) (by kernel_rfl) (fun hb => ?_) (fun hb => ?_)
         ·let E16 : Env := ((72, .bool true) :: (71, .bool true) :: (70, .tuple []) :: (69, .tuple []) :: (68, .tuple []) :: (67, .tuple []) :: (66, .bool true) :: E15)
          refine oR 7 (p' := g72p16) (eE := E16) (H' := (mkH [])) (by kernel_rfl) ?_
          refine oK [0, 1, 5, 7, 72] (eE := [(0, .str a0), (1, .int .i64 a1), (5, .int .i64 (fW .i64 (fW .i64 (fW .i64 (a1 + x0_3) + 1) + x2_3))), (7, .int .i64 (fW .i64 (fW .i64 (fW .i64 (fW .i64 (a1 + x0_3) + 1) + x2_3) + 1))), (72, .bool true)]) (by kernel_rfl) ?_
          exact hj8 true
         ·refine oR 2 (p' := (atN 12 (ctl1 g72p15))) (eE := ((68, .int .i64 (fW .i64 (fW .i64 (fW .i64 (fW .i64 (a1 + x0_3) + 1) + x2_3) + 1))) :: (67, .str a0) :: (66, .bool false) :: E15)) (H' := (mkH [])) (by kernel_rfl) ?_
          refine oH (fun (x4_12 : Int) => (.int .u8 x4_12, (mkH []))) (atN 13 (ctl1 g72p15)) (fun x4_12 => ((69, .int .u8 x4_12) :: (68, .int .i64 (fW .i64 (fW .i64 (fW .i64 (fW .i64 (a1 + x0_3) + 1) + x2_3) + 1))) :: (67, .str a0) :: (66, .bool false) :: E15)) (idxH (by kernel_rfl)) (fun _ => by kernel_rfl) (fun x4_12 hx4_12 => ?_)
          let E17 : Env := ((72, .bool (decide (x4_12 = 45))) :: (71, .bool (decide (x4_12 = 45))) :: (70, .bool (decide (x4_12 = 45))) :: (69, .int .u8 x4_12) :: (68, .int .i64 (fW .i64 (fW .i64 (fW .i64 (fW .i64 (a1 + x0_3) + 1) + x2_3) + 1))) :: (67, .str a0) :: (66, .bool false) :: E15)
          refine oR 4 (p' := g72p16) (eE := E17) (H' := (mkH [])) (by kernel_rfl) ?_
          refine oK [0, 1, 5, 7, 72] (eE := [(0, .str a0), (1, .int .i64 a1), (5, .int .i64 (fW .i64 (fW .i64 (fW .i64 (a1 + x0_3) + 1) + x2_3))), (7, .int .i64 (fW .i64 (fW .i64 (fW .i64 (fW .i64 (a1 + x0_3) + 1) + x2_3) + 1))), (72, .bool (decide (x4_12 = 45)))]) (by kernel_rfl) ?_
          exact hj8 (decide (x4_12 = 45))
        ·let E18 : Env := ((72, .bool false) :: (71, .tuple []) :: (70, .tuple []) :: (69, .tuple []) :: (68, .tuple []) :: (67, .tuple []) :: (66, .tuple []) :: (65, .tuple []) :: (64, .tuple []) :: (63, .tuple []) :: (62, .tuple []) :: (61, .bool false) :: E9)
         refine oR 12 (p' := g72p16) (eE := E18) (H' := (mkH [])) (by kernel_rfl) ?_
         refine oK [0, 1, 5, 7, 72] (eE := [(0, .str a0), (1, .int .i64 a1), (5, .int .i64 (fW .i64 (fW .i64 (fW .i64 (a1 + x0_3) + 1) + x2_3))), (7, .int .i64 (fW .i64 (fW .i64 (fW .i64 (fW .i64 (a1 + x0_3) + 1) + x2_3) + 1))), (72, .bool false)]) (by kernel_rfl) ?_
         exact hj8 false
      ·let E19 : Env := [(54, .bool false), (0, .str a0), (1, .int .i64 a1), (5, .int .i64 (fW .i64 (fW .i64 (fW .i64 (a1 + x0_3) + 1) + x2_3))), (54, .bool z7)]
       refine oR 3 (p' := g72p14) (eE := E19) (H' := (mkH [])) (by kernel_rfl) ?_
       refine oK [1, 5] (eE := [(1, .int .i64 a1), (5, .int .i64 (fW .i64 (fW .i64 (fW .i64 (a1 + x0_3) + 1) + x2_3)))]) (by kernel_rfl) ?_
       exact hj9 (fW .i64 (fW .i64 (fW .i64 (a1 + x0_3) + 1) + x2_3))
    ·refine oS 43 (b := decide (fW .i64 (fW .i64 (fW .i64 (a1 + x0_3) + 1) + x2_3) < (a0.length : Int))) (by kernel_rfl) (fun hb => ?_) (fun hb => ?_)
     ·refine oR 2 (p' := (atN 7 (ctl1 g72p11))) (eE := ((45, .int .i64 (fW .i64 (fW .i64 (fW .i64 (a1 + x0_3) + 1) + x2_3))) :: (44, .str a0) :: (43, .bool true) :: E7)) (H' := (mkH [])) (by kernel_rfl) ?_
      refine oH (fun (x3_7 : Int) => (.int .u8 x3_7, (mkH []))) (atN 8 (ctl1 g72p11)) (fun x3_7 => ((46, .int .u8 x3_7) :: (45, .int .i64 (fW .i64 (fW .i64 (fW .i64 (a1 + x0_3) + 1) + x2_3))) :: (44, .str a0) :: (43, .bool true) :: E7)) (idxH (by kernel_rfl)) (fun _ => by kernel_rfl) (fun x3_7 hx3_7 => ?_)
      let E20 : Env := ((48, .bool (decide (x3_7 = 101))) :: (47, .bool (decide (x3_7 = 101))) :: (46, .int .u8 x3_7) :: (45, .int .i64 (fW .i64 (fW .i64 (fW .i64 (a1 + x0_3) + 1) + x2_3))) :: (44, .str a0) :: (43, .bool true) :: E7)
      refine oR 2 (p' := (atN 10 (ctl1 g72p11))) (eE := E20) (H' := (mkH [])) (by kernel_rfl) ?_
      refine oS 48 (b := decide (x3_7 = 101)) (by kernel_rfl) (fun hb => ?_) (fun hb => ?_)
      ·let E21 : Env := ((54, .bool true) :: (53, .bool true) :: (52, .tuple []) :: (51, .tuple []) :: (50, .tuple []) :: (49, .tuple []) :: (48, .bool true) :: E20)
       refine oR 7 (p' := g72p12) (eE := E21) (H' := (mkH [])) (by kernel_rfl) ?_
       refine oK [0, 1, 5, 54] (eE := [(0, .str a0), (1, .int .i64 a1), (5, .int .i64 (fW .i64 (fW .i64 (fW .i64 (a1 + x0_3) + 1) + x2_3))), (54, .bool true)]) (by kernel_rfl) ?_
       exact hj7 true
      ·refine oR 2 (p' := (atN 12 (ctl1 g72p11))) (eE := ((50, .int .i64 (fW .i64 (fW .i64 (fW .i64 (a1 + x0_3) + 1) + x2_3))) :: (49, .str a0) :: (48, .bool false) :: E20)) (H' := (mkH [])) (by kernel_rfl) ?_
       refine oH (fun (x3_12 : Int) => (.int .u8 x3_12, (mkH []))) (atN 13 (ctl1 g72p11)) (fun x3_12 => ((51, .int .u8 x3_12) :: (50, .int .i64 (fW .i64 (fW .i64 (fW .i64 (a1 + x0_3) + 1) + x2_3))) :: (49, .str a0) :: (48, .bool false) :: E20)) (idxH (by kernel_rfl)) (fun _ => by kernel_rfl) (fun x3_12 hx3_12 => ?_)
       let E22 : Env := ((54, .bool (decide (x3_12 = 69))) :: (53, .bool (decide (x3_12 = 69))) :: (52, .bool (decide (x3_12 = 69))) :: (51, .int .u8 x3_12) :: (50, .int .i64 (fW .i64 (fW .i64 (fW .i64 (a1 + x0_3) + 1) + x2_3))) :: (49, .str a0) :: (48, .bool false) :: E20)
       refine oR 4 (p' := g72p12) (eE := E22) (H' := (mkH [])) (by kernel_rfl) ?_
       refine oK [0, 1, 5, 54] (eE := [(0, .str a0), (1, .int .i64 a1), (5, .int .i64 (fW .i64 (fW .i64 (fW .i64 (a1 + x0_3) + 1) + x2_3))), (54, .bool (decide (x3_12 = 69)))]) (by kernel_rfl) ?_
       exact hj7 (decide (x3_12 = 69))
     ·let E23 : Env := ((54, .bool false) :: (53, .tuple []) :: (52, .tuple []) :: (51, .tuple []) :: (50, .tuple []) :: (49, .tuple []) :: (48, .tuple []) :: (47, .tuple []) :: (46, .tuple []) :: (45, .tuple []) :: (44, .tuple []) :: (43, .bool false) :: E7)
      refine oR 12 (p' := g72p12) (eE := E23) (H' := (mkH [])) (by kernel_rfl) ?_
      refine oK [0, 1, 5, 54] (eE := [(0, .str a0), (1, .int .i64 a1), (5, .int .i64 (fW .i64 (fW .i64 (fW .i64 (a1 + x0_3) + 1) + x2_3))), (54, .bool false)]) (by kernel_rfl) ?_
      exact hj7 false
 ·refine oS 17 (b := decide (fW .i64 (a1 + x0_3) = a1)) (by kernel_rfl) (fun hb => ?_) (fun hb => ?_)
  ·let E24 : Env := ((28, .bool true) :: (27, .tuple []) :: (26, .tuple []) :: (25, .tuple []) :: (24, .tuple []) :: (23, .bool true) :: (22, .bool true) :: (21, .tuple []) :: (20, .tuple []) :: (19, .tuple []) :: (18, .tuple []) :: (17, .bool true) :: E2)
   refine oR 12 (p' := g72p3) (eE := E24) (H' := (mkH [])) (by kernel_rfl) ?_
   refine oK [0, 1, 5, 28] (eE := [(0, .str a0), (1, .int .i64 a1), (5, .int .i64 (fW .i64 (a1 + x0_3))), (28, .bool true)]) (by kernel_rfl) ?_
   exact hj6 true
  ·let E25 : Env := ((23, .bool (decide ((a0.length : Int) ≤ fW .i64 (a1 + x0_3)))) :: (22, .bool (decide ((a0.length : Int) ≤ fW .i64 (a1 + x0_3)))) :: (21, .bool (decide ((a0.length : Int) ≤ fW .i64 (a1 + x0_3)))) :: (20, .int .i64 (a0.length : Int)) :: (19, .str a0) :: (18, .int .i64 (fW .i64 (a1 + x0_3))) :: (17, .bool false) :: E2)
   refine oR 6 (p' := (atN 10 (ctl1 g72p2))) (eE := E25) (H' := (mkH [])) (by kernel_rfl) ?_
   refine oS 23 (b := decide ((a0.length : Int) ≤ fW .i64 (a1 + x0_3))) (by kernel_rfl) (fun hb => ?_) (fun hb => ?_)
   ·let E26 : Env := ((28, .bool true) :: (27, .tuple []) :: (26, .tuple []) :: (25, .tuple []) :: (24, .tuple []) :: (23, .bool true) :: E25)
    refine oR 6 (p' := g72p3) (eE := E26) (H' := (mkH [])) (by kernel_rfl) ?_
    refine oK [0, 1, 5, 28] (eE := [(0, .str a0), (1, .int .i64 a1), (5, .int .i64 (fW .i64 (a1 + x0_3))), (28, .bool true)]) (by kernel_rfl) ?_
    exact hj6 true
   ·refine oR 2 (p' := (atN 12 (ctl1 g72p2))) (eE := ((25, .int .i64 (fW .i64 (a1 + x0_3))) :: (24, .str a0) :: (23, .bool false) :: E25)) (H' := (mkH [])) (by kernel_rfl) ?_
    refine oH (fun (x1_12 : Int) => (.int .u8 x1_12, (mkH []))) (atN 13 (ctl1 g72p2)) (fun x1_12 => ((26, .int .u8 x1_12) :: (25, .int .i64 (fW .i64 (a1 + x0_3))) :: (24, .str a0) :: (23, .bool false) :: E25)) (idxH (by kernel_rfl)) (fun _ => by kernel_rfl) (fun x1_12 hx1_12 => ?_)
    let E27 : Env := ((28, .bool (!decide (x1_12 = 46))) :: (27, .bool (!decide (x1_12 = 46))) :: (26, .int .u8 x1_12) :: (25, .int .i64 (fW .i64 (a1 + x0_3))) :: (24, .str a0) :: (23, .bool false) :: E25)
    refine oR 3 (p' := g72p3) (eE := E27) (H' := (mkH [])) (by kernel_rfl) ?_
    refine oK [0, 1, 5, 28] (eE := [(0, .str a0), (1, .int .i64 a1), (5, .int .i64 (fW .i64 (a1 + x0_3))), (28, .bool (!decide (x1_12 = 46)))]) (by kernel_rfl) ?_
    exact hj6 (!decide (x1_12 = 46))
end
end Go.Proofs.Ytbmijiibfaacmaa.Am
set_option maxRecDepth 100000
set_option linter.unusedVariables false
namespace Go.Proofs.Ytbmijiibfaacmaa.Am
noncomputable section
open Go
def X73 : Fx Int := ⟨Try.prog, cx, Try.f73, fun r => .int .i64 r, 0, fun _ => H0, cxTi, cxOrd⟩
def g73p0 : Pt := nav [0] (bodyAt Try.f73)
def g73p1 : Pt := nav [0, 0, 0] g73p0
def g73p2 : Pt := nav [0, 0, 0] g73p1
def g73p3 : Pt := nav [0, 0, 0, 0] g73p2
def g73p4 : Pt := nav [0, 0] g73p3
def g73p5 : Pt := nav [1, 0] g73p4
def g73p6 : Pt := nav [2, 0, 0] g73p4
def g73p7 : Pt := nav [0, 0, 0, 0] g73p5
def g73p9 : Pt := nav [0, 0, 0, 0] g73p7
def g73p10 : Pt := nav [0, 0, 0] g73p9
def g73p11 : Pt := nav [0, 0] g73p10
def g73p12 : Pt := nav [1, 0, 0, 0] g73p11
def g73p13 : Pt := nav [2, 0, 0] g73p11
def g73p14 : Pt := nav [0, 0] g73p12
def g73p15 : Pt := nav [0, 0, 0] g73p13
def g73p16 : Pt := nav [0, 0] g73p15
def g73_l6 (k : Nat) (c8 : Unit → Option Int) (a0 : (List Nat)) (a1 : Int) (x0_2 : Int) (x1_2 : Int) (n : Nat) : Int → Int → Option Int :=
 Nat.rec (motive := fun _ => Int → Int → Option Int) (fun _ _ => none) (fun _ ih => fun (y6_0 : Int) (y6_1 : Int) => if (decide (y6_1 < fW .i64 (a1 + x1_2))) then ((nthS a0 y6_1).bind fun x3_4 => ih (fW .i64 (fW .i64 (y6_0 * 10) + fW .i64 (fW .u8 (x3_4 - 48)))) (fW .i64 (y6_1 + 1))) else ((g76 k a0 (fW .i64 (fW .i64 (a1 + x1_2) + 1)) y6_0 true).bind fun x4_6 => jn (fun (z7 : Bool) => if z7 then (some (fW .i64 (fW .i64 (x1_2 + 1) + x4_6))) else (c8 ())) (fun j7 => if (decide (2 ≤ y6_0)) then (if (decide (y6_0 ≤ 36)) then (j7 (decide (0 < x4_6))) else (j7 false)) else (j7 false)))) n
theorem g73_l6_s (k : Nat) (c8 : Unit → Option Int) (a0 : (List Nat)) (a1 : Int) (x0_2 : Int) (x1_2 : Int) (n : Nat) (y6_0 : Int) (y6_1 : Int) : g73_l6 k c8 a0 a1 x0_2 x1_2 (n + 1) y6_0 y6_1 = (if (decide (y6_1 < fW .i64 (a1 + x1_2))) then ((nthS a0 y6_1).bind fun x3_4 => (g73_l6 k c8 a0 a1 x0_2 x1_2 n) (fW .i64 (fW .i64 (y6_0 * 10) + fW .i64 (fW .u8 (x3_4 - 48)))) (fW .i64 (y6_1 + 1))) else ((g76 k a0 (fW .i64 (fW .i64 (a1 + x1_2) + 1)) y6_0 true).bind fun x4_6 => jn (fun (z7 : Bool) => if z7 then (some (fW .i64 (fW .i64 (x1_2 + 1) + x4_6))) else (c8 ())) (fun j7 => if (decide (2 ≤ y6_0)) then (if (decide (y6_0 ≤ 36)) then (j7 (decide (0 < x4_6))) else (j7 false)) else (j7 false)))) := rfl
theorem g73_l6_ok (k : Nat) (c8 : Unit → Option Int) (a0 : (List Nat)) (a1 : Int) (x0_2 : Int) (x1_2 : Int) (hc8 : ∀ z8 : Unit, Ok X73 g73p6 ((fun (z8 : Unit) => [(5, .int .i64 x0_2)]) z8) ((fun (z8 : Unit) => (mkH [])) z8) (c8 z8)) : ∀ (n : Nat) (y6_0 : Int) (y6_1 : Int), Ok X73 g73p9 [(0, .str a0), (1, .int .i64 a1), (5, .int .i64 x0_2), (6, .int .i64 x1_2), (7, .int .i64 y6_0), (8, .int .i64 y6_1)] (mkH []) (g73_l6 k c8 a0 a1 x0_2 x1_2 n y6_0 y6_1)
 | 0, _, _ => ok_none
 | n + 1, y6_0, y6_1 => by
  have ih := g73_l6_ok k c8 a0 a1 x0_2 x1_2 hc8 n
  rw [g73_l6_s]
  refine ok_ent (p' := nav [0] g73p9) (by kernel_rfl) ?_
  let E5 : Env := [(43, .bool (decide (y6_1 < fW .i64 (a1 + x1_2)))), (42, .int .i64 (fW .i64 (a1 + x1_2))), (41, .int .i64 x1_2), (40, .int .i64 a1), (39, .int .i64 y6_1), (0, .str a0), (1, .int .i64 a1), (5, .int .i64 x0_2), (6, .int .i64 x1_2), (7, .int .i64 y6_0), (8, .int .i64 y6_1)]
  refine oR 9 (p' := g73p11) (eE := E5) (H' := (mkH [])) (by kernel_rfl) ?_
  refine oS 43 (b := decide (y6_1 < fW .i64 (a1 + x1_2))) (by kernel_rfl) (fun hb => ?_) (fun hb => ?_)
  ·let E6 : Env := ((49, .int .i64 y6_1) :: (48, .str a0) :: (47, .int .i64 (fW .i64 (y6_0 * 10))) :: (46, .int .i64 y6_0) :: (43, .bool true) :: E5)
   refine oR 9 (p' := (atN 4 (ctl1 g73p12))) (eE := E6) (H' := (mkH [])) (by kernel_rfl) ?_
   refine oH (fun (x3_4 : Int) => (.int .u8 x3_4, (mkH []))) (atN 5 (ctl1 g73p12)) (fun x3_4 => ((50, .int .u8 x3_4) :: E6)) (idxH (by kernel_rfl)) (fun _ => by kernel_rfl) (fun x3_4 hx3_4 => ?_)
   let E7 : Env := ((7, .int .i64 (fW .i64 (fW .i64 (y6_0 * 10) + fW .i64 (fW .u8 (x3_4 - 48))))) :: (53, .int .i64 (fW .i64 (fW .i64 (y6_0 * 10) + fW .i64 (fW .u8 (x3_4 - 48))))) :: (52, .int .i64 (fW .i64 (fW .u8 (x3_4 - 48)))) :: (51, .int .u8 (fW .u8 (x3_4 - 48))) :: (50, .int .u8 x3_4) :: E6)
   refine oR 5 (p' := g73p14) (eE := E7) (H' := (mkH [])) (by kernel_rfl) ?_
   refine oK [0, 1, 5, 6, 7, 8] (eE := [(0, .str a0), (1, .int .i64 a1), (5, .int .i64 x0_2), (6, .int .i64 x1_2), (7, .int .i64 (fW .i64 (fW .i64 (y6_0 * 10) + fW .i64 (fW .u8 (x3_4 - 48))))), (8, .int .i64 y6_1)]) (by kernel_rfl) ?_
   let E8 : Env := [(8, .int .i64 (fW .i64 (y6_1 + 1))), (45, .int .i64 (fW .i64 (y6_1 + 1))), (44, .int .i64 y6_1), (0, .str a0), (1, .int .i64 a1), (5, .int .i64 x0_2), (6, .int .i64 x1_2), (7, .int .i64 (fW .i64 (fW .i64 (y6_0 * 10) + fW .i64 (fW .u8 (x3_4 - 48))))), (8, .int .i64 y6_1)]
   refine oR 5 (p' := g73p9) (eE := E8) (H' := (mkH [])) (by kernel_rfl) ?_
   refine oK [0, 1, 5, 6, 7, 8] (eE := [(0, .str a0), (1, .int .i64 a1), (5, .int .i64 x0_2), (6, .int .i64 x1_2), (7, .int .i64 (fW .i64 (fW .i64 (y6_0 * 10) + fW .i64 (fW .u8 (x3_4 - 48))))), (8, .int .i64 (fW .i64 (y6_1 + 1)))]) (by kernel_rfl) ?_
   exact ih (fW .i64 (fW .i64 (y6_0 * 10) + fW .i64 (fW .u8 (x3_4 - 48)))) (fW .i64 (y6_1 + 1))
  ·let E9 : Env := ((59, .int .i64 y6_0) :: (58, .int .i64 (fW .i64 (fW .i64 (a1 + x1_2) + 1))) :: (57, .int .i64 (fW .i64 (a1 + x1_2))) :: (56, .int .i64 x1_2) :: (55, .int .i64 a1) :: (54, .str a0) :: (43, .bool false) :: E5)
   refine oR 10 (p' := (atN 6 (ctl1 g73p13))) (eE := E9) (H' := (mkH [])) (by kernel_rfl) ?_
   refine oC (fun (x4_6 : Int) => .int .i64 x4_6) (atN 7 (ctl1 g73p13)) (fun x4_6 => ((60, .int .i64 x4_6) :: E9)) (fi := 76) (args := [.str a0, .int .i64 (fW .i64 (fW .i64 (a1 + x1_2) + 1)), .int .i64 y6_0, .bool true]) (by kernel_rfl) (by kernel_rfl) (fun _ => by kernel_rfl) (fun r h => g76_ok k a0 (fW .i64 (fW .i64 (a1 + x1_2) + 1)) y6_0 true r h) (fun _ => by kernel_rfl) (fun x4_6 hx4_6 => ?_)
   refine oR 3 (p' := g73p15) (eE := ((9, .int .i64 x4_6) :: (60, .int .i64 x4_6) :: E9)) (H' := (mkH [])) (by kernel_rfl) ?_
   refine oK [5, 6, 7, 9] (eE := [(5, .int .i64 x0_2), (6, .int .i64 x1_2), (7, .int .i64 y6_0), (9, .int .i64 x4_6)]) (by kernel_rfl) ?_
   let E10 : Env := [(63, .bool (decide (2 ≤ y6_0))), (62, .bool (decide (2 ≤ y6_0))), (61, .int .i64 y6_0), (5, .int .i64 x0_2), (6, .int .i64 x1_2), (7, .int .i64 y6_0), (9, .int .i64 x4_6)]
   refine oR 4 (p' := (atN 3 (ctl1 g73p15))) (eE := E10) (H' := (mkH [])) (by kernel_rfl) ?_
   refine oJ (f := fun (z7 : Bool) => if z7 then (some (fW .i64 (fW .i64 (x1_2 + 1) + x4_6))) else (c8 ())) g73p16 (fun (z7 : Bool) => [(5, .int .i64 x0_2), (6, .int .i64 x1_2), (9, .int .i64 x4_6), (70, .bool z7)]) (fun (z7 : Bool) => (mkH [])) (fun z7 => ?_) (fun j7 hj7 => ?_)
   ·refine oS 70 (b := z7) (by kernel_rfl) (fun hb => ?_) (fun hb => ?_)
    ·let E11 : Env := [(4, .int .i64 (fW .i64 (fW .i64 (x1_2 + 1) + x4_6))), (74, .int .i64 (fW .i64 (fW .i64 (x1_2 + 1) + x4_6))), (73, .int .i64 x4_6), (72, .int .i64 (fW .i64 (x1_2 + 1))), (71, .int .i64 x1_2), (70, .bool true), (5, .int .i64 x0_2), (6, .int .i64 x1_2), (9, .int .i64 x4_6), (70, .bool z7)]
     refine oR 10 (p' := .fin) (eE := E11) (H' := (mkH [])) (by kernel_rfl) ?_
     exact oT (r := (fW .i64 (fW .i64 (x1_2 + 1) + x4_6))) (xs := [.int .i64 (fW .i64 (fW .i64 (x1_2 + 1) + x4_6))]) (v := .int .i64 (fW .i64 (fW .i64 (x1_2 + 1) + x4_6))) (by kernel_rfl) (by kernel_rfl) (by kernel_rfl) (.pures (by kernel_rfl)) (by kernel_rfl)
    ·let E12 : Env := [(70, .bool false), (5, .int .i64 x0_2), (6, .int .i64 x1_2), (9, .int .i64 x4_6), (70, .bool z7)]
     refine oR 3 (p' := g73p6) (eE := E12) (H' := (mkH [])) (by kernel_rfl) ?_
     refine oK [5] (eE := [(5, .int .i64 x0_2)]) (by kernel_rfl) ?_
     exact hc8 ()
   ·refine oS 63 (b := decide (2 ≤ y6_0)) (by kernel_rfl) (fun hb => ?_) (fun hb => ?_)
    ·let E13 : Env := ((67, .bool (decide (y6_0 ≤ 36))) :: (66, .bool (decide (y6_0 ≤ 36))) :: (65, .bool (decide (y6_0 ≤ 36))) :: (64, .int .i64 y6_0) :: (63, .bool true) :: E10)
     refine oR 4 (p' := (atN 7 (ctl1 g73p15))) (eE := E13) (H' := (mkH [])) (by kernel_rfl) ?_
     refine oS 67 (b := decide (y6_0 ≤ 36)) (by kernel_rfl) (fun hb => ?_) (fun hb => ?_)
     ·refine oR 4 (p' := g73p16) (eE := ((70, .bool (decide (0 < x4_6))) :: (69, .bool (decide (0 < x4_6))) :: (68, .int .i64 x4_6) :: (67, .bool true) :: E13)) (H' := (mkH [])) (by kernel_rfl) ?_
      refine oK [5, 6, 9, 70] (eE := [(5, .int .i64 x0_2), (6, .int .i64 x1_2), (9, .int .i64 x4_6), (70, .bool (decide (0 < x4_6)))]) (by kernel_rfl) ?_
      exact hj7 (decide (0 < x4_6))
     ·refine oR 4 (p' := g73p16) (eE := ((70, .bool false) :: (69, .tuple []) :: (68, .tuple []) :: (67, .bool false) :: E13)) (H' := (mkH [])) (by kernel_rfl) ?_
      refine oK [5, 6, 9, 70] (eE := [(5, .int .i64 x0_2), (6, .int .i64 x1_2), (9, .int .i64 x4_6), (70, .bool false)]) (by kernel_rfl) ?_
      exact hj7 false
    ·let E14 : Env := ((70, .bool false) :: (69, .tuple []) :: (68, .tuple []) :: (67, .bool false) :: (66, .bool false) :: (65, .tuple []) :: (64, .tuple []) :: (63, .bool false) :: E10)
     refine oR 8 (p' := g73p16) (eE := E14) (H' := (mkH [])) (by kernel_rfl) ?_
     refine oK [5, 6, 9, 70] (eE := [(5, .int .i64 x0_2), (6, .int .i64 x1_2), (9, .int .i64 x4_6), (70, .bool false)]) (by kernel_rfl) ?_
     exact hj7 false
def g73 (k : Nat) (a0 : (List Nat)) (a1 : Int) : Option Int :=
 (g76 k a0 a1 (10 : Int) true).bind fun x0_2 => (g76 k a0 a1 (10 : Int) false).bind fun x1_2 => jn (fun (z5 : Bool) => jn (fun (z8 : Unit) => some x0_2) (fun j8 => if z5 then (g73_l6 k j8 a0 a1 x0_2 x1_2 k 0 a1) else (j8 ()))) (fun j5 => if (decide (0 < x1_2)) then (if (decide (x1_2 < 3)) then (if (decide (fW .i64 (a1 + x1_2) < (a0.length : Int))) then ((nthS a0 (fW .i64 (a1 + x1_2))).bind fun x2_19 => j5 (decide (x2_19 = 35))) else (j5 false)) else (j5 false)) else (j5 false))
theorem g73_ok (k : Nat) (a0 : (List Nat)) (a1 : Int) (r : Int) (h : g73 k a0 a1 = some r) : PureOk Try.prog 73 [.str a0, .int .i64 a1] (.int .i64 r) := by
 refine pure_of X73 (fun _ => rfl) Try.func73 (by decide +kernel) (by kernel_rfl) (t := g73 k a0 a1) ?_ h
 unfold g73
 refine oE (eE := [(0, .str a0), (1, .int .i64 a1)]) (by kernel_rfl) ?_
 let E1 : Env := [(11, .int .i64 a1), (10, .str a0), (4, .int .i64 0), (0, .str a0), (1, .int .i64 a1)]
 refine oR 8 (p' := (atN 2 (ctl1 g73p1))) (eE := E1) (H' := (mkH [])) (by kernel_rfl) ?_
 refine oC (fun (x0_2 : Int) => .int .i64 x0_2) (atN 3 (ctl1 g73p1)) (fun x0_2 => ((12, .int .i64 x0_2) :: E1)) (fi := 76) (args := [.str a0, .int .i64 a1, .int .i64 10, .bool true]) (by kernel_rfl) (by kernel_rfl) (fun _ => by kernel_rfl) (fun r h => g76_ok k a0 a1 (10 : Int) true r h) (fun _ => by kernel_rfl) (fun x0_2 hx0_2 => ?_)
 refine oR 6 (p' := (atN 2 (ctl1 g73p2))) (eE := ((14, .int .i64 a1) :: (13, .str a0) :: (5, .int .i64 x0_2) :: (12, .int .i64 x0_2) :: E1)) (H' := (mkH [])) (by kernel_rfl) ?_
 refine oC (fun (x1_2 : Int) => .int .i64 x1_2) (atN 3 (ctl1 g73p2)) (fun x1_2 => ((15, .int .i64 x1_2) :: (14, .int .i64 a1) :: (13, .str a0) :: (5, .int .i64 x0_2) :: (12, .int .i64 x0_2) :: E1)) (fi := 76) (args := [.str a0, .int .i64 a1, .int .i64 10, .bool false]) (by kernel_rfl) (by kernel_rfl) (fun _ => by kernel_rfl) (fun r h => g76_ok k a0 a1 (10 : Int) false r h) (fun _ => by kernel_rfl) (fun x1_2 hx1_2 => ?_)
 let E2 : Env := ((6, .int .i64 x1_2) :: (15, .int .i64 x1_2) :: (14, .int .i64 a1) :: (13, .str a0) :: (5, .int .i64 x0_2) :: (12, .int .i64 x0_2) :: E1)
 refine oR 4 (p' := g73p3) (eE := E2) (H' := (mkH [])) (by kernel_rfl) ?_
 refine oK [0, 1, 5, 6] (eE := [(0, .str a0), (1, .int .i64 a1), (5, .int .i64 x0_2), (6, .int .i64 x1_2)]) (by kernel_rfl) ?_
 let E3 : Env := [(18, .bool (decide (0 < x1_2))), (17, .bool (decide (0 < x1_2))), (16, .int .i64 x1_2), (0, .str a0), (1, .int .i64 a1), (5, .int .i64 x0_2), (6, .int .i64 x1_2)]
 refine oR 4 (p' := (atN 3 (ctl1 g73p3))) (eE := E3) (H' := (mkH [])) (by kernel_rfl) ?_
 refine oJ (f := fun (z5 : Bool) => jn (fun (z8 : Unit) => some x0_2) (fun j8 => if z5 then (g73_l6 k j8 a0 a1 x0_2 x1_2 k 0 a1) else (j8 ()))) g73p4 (fun (z5 : Bool) => [(0, .str a0), (1, .int .i64 a1), (5, .int .i64 x0_2), (6, .int .i64 x1_2), (37, .bool z5)]) (fun (z5 : Bool) => (mkH [])) (fun z5 => ?_) (fun j5 hj5 => ?_)
 ·refine oJ (f := fun (z8 : Unit) => some x0_2) g73p6 (fun (z8 : Unit) => [(5, .int .i64 x0_2)]) (fun (z8 : Unit) => (mkH [])) (fun z8 => ?_) (fun j8 hj8 => ?_)
  ·refine oR 5 (p' := .fin) (eE := [(4, .int .i64 x0_2), (75, .int .i64 x0_2), (5, .int .i64 x0_2)]) (H' := (mkH [])) (by kernel_rfl) ?_
   exact oT (r := x0_2) (xs := [.int .i64 x0_2]) (v := .int .i64 x0_2) (by kernel_rfl) (by kernel_rfl) (by kernel_rfl) (.pures (by kernel_rfl)) (by kernel_rfl)
  ·refine oS 37 (b := z5) (by kernel_rfl) (fun hb => ?_) (fun hb => ?_)
   ·let E4 : Env := [(8, .int .i64 a1), (38, .int .i64 a1), (7, .int .i64 0), (37, .bool true), (0, .str a0), (1, .int .i64 a1), (5, .int .i64 x0_2), (6, .int .i64 x1_2), (37, .bool z5)]
    refine oR 13 (p' := g73p9) (eE := E4) (H' := (mkH [])) (by kernel_rfl) ?_
    refine oK [0, 1, 5, 6, 7, 8] (eE := [(0, .str a0), (1, .int .i64 a1), (5, .int .i64 x0_2), (6, .int .i64 x1_2), (7, .int .i64 0), (8, .int .i64 a1)]) (by kernel_rfl) ?_
    exact (g73_l6_ok k j8 a0 a1 x0_2 x1_2 hj8 k) 0 a1
   ·let E15 : Env := [(37, .bool false), (0, .str a0), (1, .int .i64 a1), (5, .int .i64 x0_2), (6, .int .i64 x1_2), (37, .bool z5)]
    refine oR 3 (p' := g73p6) (eE := E15) (H' := (mkH [])) (by kernel_rfl) ?_
    refine oK [5] (eE := [(5, .int .i64 x0_2)]) (by kernel_rfl) ?_
    exact hj8 ()
 ·refine oS 18 (b := decide (0 < x1_2)) (by kernel_rfl) (fun hb => ?_) (fun hb => ?_)
  ·let E16 : Env := ((22, .bool (decide (x1_2 < 3))) :: (21, .bool (decide (x1_2 < 3))) :: (20, .bool (decide (x1_2 < 3))) :: (19, .int .i64 x1_2) :: (18, .bool true) :: E3)
   refine oR 4 (p' := (atN 7 (ctl1 g73p3))) (eE := E16) (H' := (mkH [])) (by kernel_rfl) ?_
   refine oS 22 (b := decide (x1_2 < 3)) (by kernel_rfl) (fun hb => ?_) (fun hb => ?_)
   ·let E17 : Env := ((30, .bool (decide (fW .i64 (a1 + x1_2) < (a0.length : Int)))) :: (29, .bool (decide (fW .i64 (a1 + x1_2) < (a0.length : Int)))) :: (28, .bool (decide (fW .i64 (a1 + x1_2) < (a0.length : Int)))) :: (27, .int .i64 (a0.length : Int)) :: (26, .str a0) :: (25, .int .i64 (fW .i64 (a1 + x1_2))) :: (24, .int .i64 x1_2) :: (23, .int .i64 a1) :: (22, .bool true) :: E16)
    refine oR 8 (p' := (atN 15 (ctl1 g73p3))) (eE := E17) (H' := (mkH [])) (by kernel_rfl) ?_
    refine oS 30 (b := decide (fW .i64 (a1 + x1_2) < (a0.length : Int))) (by kernel_rfl) (fun hb => ?_) (fun hb => ?_)
    ·let E18 : Env := ((34, .int .i64 (fW .i64 (a1 + x1_2))) :: (33, .int .i64 x1_2) :: (32, .int .i64 a1) :: (31, .str a0) :: (30, .bool true) :: E17)
     refine oR 4 (p' := (atN 19 (ctl1 g73p3))) (eE := E18) (H' := (mkH [])) (by kernel_rfl) ?_
     refine oH (fun (x2_19 : Int) => (.int .u8 x2_19, (mkH []))) (atN 20 (ctl1 g73p3)) (fun x2_19 => ((35, .int .u8 x2_19) :: E18)) (idxH (by kernel_rfl)) (fun _ => by kernel_rfl) (fun x2_19 hx2_19 => ?_)
     refine oR 3 (p' := g73p4) (eE := ((37, .bool (decide (x2_19 = 35))) :: (36, .bool (decide (x2_19 = 35))) :: (35, .int .u8 x2_19) :: E18)) (H' := (mkH [])) (by kernel_rfl) ?_
     refine oK [0, 1, 5, 6, 37] (eE := [(0, .str a0), (1, .int .i64 a1), (5, .int .i64 x0_2), (6, .int .i64 x1_2), (37, .bool (decide (x2_19 = 35)))]) (by kernel_rfl) ?_
     exact hj5 (decide (x2_19 = 35))
    ·let E19 : Env := ((37, .bool false) :: (36, .tuple []) :: (35, .tuple []) :: (34, .tuple []) :: (33, .tuple []) :: (32, .tuple []) :: (31, .tuple []) :: (30, .bool false) :: E17)
     refine oR 8 (p' := g73p4) (eE := E19) (H' := (mkH [])) (by kernel_rfl) ?_
     refine oK [0, 1, 5, 6, 37] (eE := [(0, .str a0), (1, .int .i64 a1), (5, .int .i64 x0_2), (6, .int .i64 x1_2), (37, .bool false)]) (by kernel_rfl) ?_
     exact hj5 false
   ·let E20 : Env := ((37, .bool false) :: (36, .tuple []) :: (35, .tuple []) :: (34, .tuple []) :: (33, .tuple []) :: (32, .tuple []) :: (31, .tuple []) :: (30, .bool false) :: (29, .bool false) :: (28, .tuple []) :: (27, .tuple []) :: (26, .tuple []) :: (25, .tuple []) :: (24, .tuple []) :: (23, .tuple []) :: (22, .bool false) :: E16)
    refine oR 16 (p' := g73p4) (eE := E20) (H' := (mkH [])) (by kernel_rfl) ?_
    refine oK [0, 1, 5, 6, 37] (eE := [(0, .str a0), (1, .int .i64 a1), (5, .int .i64 x0_2), (6, .int .i64 x1_2), (37, .bool false)]) (by kernel_rfl) ?_
    exact hj5 false
  ·let E21 : Env := ((37, .bool false) :: (36, .tuple []) :: (35, .tuple []) :: (34, .tuple []) :: (33, .tuple []) :: (32, .tuple []) :: (31, .tuple []) :: (30, .bool false) :: (29, .bool false) :: (28, .tuple []) :: (27, .tuple []) :: (26, .tuple []) :: (25, .tuple []) :: (24, .tuple []) :: (23, .tuple []) :: (22, .bool false) :: (21, .bool false) :: (20, .tuple []) :: (19, .tuple []) :: (18, .bool false) :: E3)
   refine oR 20 (p' := g73p4) (eE := E21) (H' := (mkH [])) (by kernel_rfl) ?_
   refine oK [0, 1, 5, 6, 37] (eE := [(0, .str a0), (1, .int .i64 a1), (5, .int .i64 x0_2), (6, .int .i64 x1_2), (37, .bool false)]) (by kernel_rfl) ?_
   exact hj5 false
end
end Go.Proofs.Ytbmijiibfaacmaa.Am
set_option maxRecDepth 100000
set_option linter.unusedVariables false
namespace Go.Proofs.Ytbmijiibfaacmaa.Am
noncomputable section
open Go
def X59 : Fx (S46 × Int) := ⟨Try.prog, cx, Try.f59, fun r => .tuple [.agg [.int .i64 r.1.f0, .str r.1.f1, .int .i64 r.1.f2], .int .i64 r.2], 0, fun _ => H0, cxTi, cxOrd⟩
def g59p0 : Pt := nav [0] (bodyAt Try.f59)
def g59p1 : Pt := nav [0, 0, 0] g59p0
def g59p2 : Pt := nav [0, 0, 0, 0] g59p1
def g59p3 : Pt := nav [0, 0] g59p2
def g59p4 : Pt := nav [1] g59p3
def g59p5 : Pt := nav [2, 0, 0] g59p3
def g59p6 : Pt := nav [0, 0, 0, 0] g59p5
def g59p7 : Pt := nav [0, 0] g59p6
def g59p9 : Pt := nav [2, 0, 0, 0] g59p7
def g59p11 : Pt := nav [0, 0] g59p9
def g59p12 : Pt := nav [1, 0] g59p11
def g59p13 : Pt := nav [2, 0, 0] g59p11
def g59p14 : Pt := nav [0, 0, 0, 0] g59p12
def g59p15 : Pt := nav [0, 0, 0, 0] g59p14
def g59p16 : Pt := nav [0, 0, 0] g59p15
def g59p17 : Pt := nav [0, 0] g59p16
def g59p18 : Pt := nav [1, 0, 0, 0] g59p17
def g59p19 : Pt := nav [2, 0, 0] g59p17
def g59p20 : Pt := nav [0, 0] g59p18
def g59p21 : Pt := nav [0, 0] g59p19
def g59_l9 (k : Nat) (c11 : Unit → Option (S46 × Int)) (a0 : (List Nat)) (a1 : Int) (z6 : Int × Int) (n : Nat) : Bool → Int → Option (S46 × Int) :=
 Nat.rec (motive := fun _ => Bool → Int → Option (S46 × Int)) (fun _ _ => none) (fun _ ih => fun (y9_0 : Bool) (y9_1 : Int) => if (decide (y9_1 < fW .i64 (a1 + z6.2))) then (jn (fun (z10 : Bool × Int) => ih z10.1 (fW .i64 (z10.2 + 1))) (fun j10 => if y9_0 then (j10 (true, y9_1)) else ((nthS a0 y9_1).bind fun x5_4 => j10 (decide (x5_4 = 35), y9_1)))) else (if (!y9_0) then (some ((⟨(0 : Int), ([] : List Nat), (0 : Int)⟩ : S46), (4 : Int))) else (c11 ()))) n
theorem g59_l9_s (k : Nat) (c11 : Unit → Option (S46 × Int)) (a0 : (List Nat)) (a1 : Int) (z6 : Int × Int) (n : Nat) (y9_0 : Bool) (y9_1 : Int) : g59_l9 k c11 a0 a1 z6 (n + 1) y9_0 y9_1 = (if (decide (y9_1 < fW .i64 (a1 + z6.2))) then (jn (fun (z10 : Bool × Int) => (g59_l9 k c11 a0 a1 z6 n) z10.1 (fW .i64 (z10.2 + 1))) (fun j10 => if y9_0 then (j10 (true, y9_1)) else ((nthS a0 y9_1).bind fun x5_4 => j10 (decide (x5_4 = 35), y9_1)))) else (if (!y9_0) then (some ((⟨(0 : Int), ([] : List Nat), (0 : Int)⟩ : S46), (4 : Int))) else (c11 ()))) := rfl
theorem g59_l9_ok (k : Nat) (c11 : Unit → Option (S46 × Int)) (a0 : (List Nat)) (a1 : Int) (z6 : Int × Int) (hc11 : ∀ z11 : Unit, Ok X59 g59p13 ((fun (z11 : Unit) => [(0, .str a0), (1, .int .i64 a1), (4, .ptr 0 3 0), (6, .int .i64 z6.1), (8, .int .i64 (fW .i64 (a1 + z6.2)))]) z11) ((fun (z11 : Unit) => (mkH [⟨[.int .i64 0, .str [], .int .i64 0], 0, false⟩])) z11) (c11 z11)) : ∀ (n : Nat) (y9_0 : Bool) (y9_1 : Int), Ok X59 g59p15 [(0, .str a0), (1, .int .i64 a1), (4, .ptr 0 3 0), (6, .int .i64 z6.1), (8, .int .i64 (fW .i64 (a1 + z6.2))), (9, .bool y9_0), (10, .int .i64 y9_1)] (mkH [⟨[.int .i64 0, .str [], .int .i64 0], 0, false⟩]) (g59_l9 k c11 a0 a1 z6 n y9_0 y9_1)
 | 0, _, _ => ok_none
 | n + 1, y9_0, y9_1 => by
  have ih := g59_l9_ok k c11 a0 a1 z6 hc11 n
  rw [g59_l9_s]
  refine ok_ent (p' := nav [0] g59p15) (by kernel_rfl) ?_
  let E8 : Env := [(54, .bool (decide (y9_1 < fW .i64 (a1 + z6.2)))), (53, .int .i64 (fW .i64 (a1 + z6.2))), (52, .int .i64 y9_1), (0, .str a0), (1, .int .i64 a1), (4, .ptr 0 3 0), (6, .int .i64 z6.1), (8, .int .i64 (fW .i64 (a1 + z6.2))), (9, .bool y9_0), (10, .int .i64 y9_1)]
  refine oR 7 (p' := g59p17) (eE := E8) (H' := (mkH [⟨[.int .i64 0, .str [], .int .i64 0], 0, false⟩])) (by kernel_rfl) ?_
  refine oS 54 (b := decide (y9_1 < fW .i64 (a1 + z6.2))) (by kernel_rfl) (fun hb => ?_) (fun hb => ?_)
  ·refine oR 7 (p' := (atN 2 (ctl1 g59p18))) (eE := ((58, .bool y9_0) :: (57, .bool y9_0) :: (54, .bool true) :: E8)) (H' := (mkH [⟨[.int .i64 0, .str [], .int .i64 0], 0, false⟩])) (by kernel_rfl) ?_
   refine oJ (f := fun (z10 : Bool × Int) => (g59_l9 k c11 a0 a1 z6 n) z10.1 (fW .i64 (z10.2 + 1))) g59p20 (fun (z10 : Bool × Int) => [(0, .str a0), (1, .int .i64 a1), (4, .ptr 0 3 0), (6, .int .i64 z6.1), (8, .int .i64 (fW .i64 (a1 + z6.2))), (9, .bool z10.1), (10, .int .i64 z10.2)]) (fun (z10 : Bool × Int) => (mkH [⟨[.int .i64 0, .str [], .int .i64 0], 0, false⟩])) (fun z10 => ?_) (fun j10 hj10 => ?_)
   ·let E9 : Env := [(10, .int .i64 (fW .i64 (z10.2 + 1))), (56, .int .i64 (fW .i64 (z10.2 + 1))), (55, .int .i64 z10.2), (0, .str a0), (1, .int .i64 a1), (4, .ptr 0 3 0), (6, .int .i64 z6.1), (8, .int .i64 (fW .i64 (a1 + z6.2))), (9, .bool z10.1), (10, .int .i64 z10.2)]
    refine oR 5 (p' := g59p15) (eE := E9) (H' := (mkH [⟨[.int .i64 0, .str [], .int .i64 0], 0, false⟩])) (by kernel_rfl) ?_
    refine oK [0, 1, 4, 6, 8, 9, 10] (eE := [(0, .str a0), (1, .int .i64 a1), (4, .ptr 0 3 0), (6, .int .i64 z6.1), (8, .int .i64 (fW .i64 (a1 + z6.2))), (9, .bool z10.1), (10, .int .i64 (fW .i64 (z10.2 + 1)))]) (by kernel_rfl) ?_
    exact ih z10.1 (fW .i64 (z10.2 + 1))
   ·refine oS 58 (b := y9_0) (by kernel_rfl) (fun hb => ?_) (fun hb => ?_)
    ·let E10 : Env := ((9, .bool true) :: (63, .bool true) :: (62, .tuple []) :: (61, .tuple []) :: (60, .tuple []) :: (59, .tuple []) :: (58, .bool true) :: (58, .bool y9_0) :: (57, .bool y9_0) :: (54, .bool true) :: E8)
     refine oR 7 (p' := g59p20) (eE := E10) (H' := (mkH [⟨[.int .i64 0, .str [], .int .i64 0], 0, false⟩])) (by kernel_rfl) ?_
     refine oK [0, 1, 4, 6, 8, 9, 10] (eE := [(0, .str a0), (1, .int .i64 a1), (4, .ptr 0 3 0), (6, .int .i64 z6.1), (8, .int .i64 (fW .i64 (a1 + z6.2))), (9, .bool true), (10, .int .i64 y9_1)]) (by kernel_rfl) ?_
     exact hj10 (true, y9_1)
    ·let E11 : Env := ((60, .int .i64 y9_1) :: (59, .str a0) :: (58, .bool false) :: (58, .bool y9_0) :: (57, .bool y9_0) :: (54, .bool true) :: E8)
     refine oR 2 (p' := (atN 4 (ctl1 g59p18))) (eE := E11) (H' := (mkH [⟨[.int .i64 0, .str [], .int .i64 0], 0, false⟩])) (by kernel_rfl) ?_
     refine oH (fun (x5_4 : Int) => (.int .u8 x5_4, (mkH [⟨[.int .i64 0, .str [], .int .i64 0], 0, false⟩]))) (atN 5 (ctl1 g59p18)) (fun x5_4 => ((61, .int .u8 x5_4) :: E11)) (idxH (by kernel_rfl)) (fun _ => by kernel_rfl) (fun x5_4 hx5_4 => ?_)
     refine oR 4 (p' := g59p20) (eE := ((9, .bool (decide (x5_4 = 35))) :: (63, .bool (decide (x5_4 = 35))) :: (62, .bool (decide (x5_4 = 35))) :: (61, .int .u8 x5_4) :: E11)) (H' := (mkH [⟨[.int .i64 0, .str [], .int .i64 0], 0, false⟩])) (by kernel_rfl) ?_
     refine oK [0, 1, 4, 6, 8, 9, 10] (eE := [(0, .str a0), (1, .int .i64 a1), (4, .ptr 0 3 0), (6, .int .i64 z6.1), (8, .int .i64 (fW .i64 (a1 + z6.2))), (9, .bool (decide (x5_4 = 35))), (10, .int .i64 y9_1)]) (by kernel_rfl) ?_
     exact hj10 (decide (x5_4 = 35), y9_1)
  ·refine oR 7 (p' := g59p21) (eE := ((65, .bool (!y9_0)) :: (64, .bool y9_0) :: (54, .bool false) :: E8)) (H' := (mkH [⟨[.int .i64 0, .str [], .int .i64 0], 0, false⟩])) (by kernel_rfl) ?_
   refine oK [0, 1, 4, 6, 8, 65] (eE := [(0, .str a0), (1, .int .i64 a1), (4, .ptr 0 3 0), (6, .int .i64 z6.1), (8, .int .i64 (fW .i64 (a1 + z6.2))), (65, .bool (!y9_0))]) (by kernel_rfl) ?_
   refine oS 65 (b := !y9_0) (by kernel_rfl) (fun hb => ?_) (fun hb => ?_)
   ·let E12 : Env := [(5, .int .i64 4), (66, .agg [.int .i64 0, .str [], .int .i64 0]), (65, .bool true), (0, .str a0), (1, .int .i64 a1), (4, .ptr 0 3 0), (6, .int .i64 z6.1), (8, .int .i64 (fW .i64 (a1 + z6.2))), (65, .bool (!y9_0))]
    refine oR 8 (p' := .fin) (eE := E12) (H' := (mkH [⟨[.int .i64 0, .str [], .int .i64 0], 3, false⟩])) (by kernel_rfl) ?_
    exact oT (r := ((⟨(0 : Int), ([] : List Nat), (0 : Int)⟩ : S46), (4 : Int))) (xs := [.agg [.int .i64 0, .str [], .int .i64 0], .int .i64 4]) (v := .tuple [.agg [.int .i64 0, .str [], .int .i64 0], .int .i64 4]) (by kernel_rfl) (by kernel_rfl) (by kernel_rfl) (.pures (by kernel_rfl)) (by kernel_rfl)
   ·let E13 : Env := [(65, .bool false), (0, .str a0), (1, .int .i64 a1), (4, .ptr 0 3 0), (6, .int .i64 z6.1), (8, .int .i64 (fW .i64 (a1 + z6.2))), (65, .bool (!y9_0))]
    refine oR 3 (p' := g59p13) (eE := E13) (H' := (mkH [⟨[.int .i64 0, .str [], .int .i64 0], 0, false⟩])) (by kernel_rfl) ?_
    refine oK [0, 1, 4, 6, 8] (eE := [(0, .str a0), (1, .int .i64 a1), (4, .ptr 0 3 0), (6, .int .i64 z6.1), (8, .int .i64 (fW .i64 (a1 + z6.2)))]) (by kernel_rfl) ?_
    exact hc11 ()
def g59 (k : Nat) (a0 : (List Nat)) (a1 : Int) : Option (S46 × Int) :=
 (g72 k a0 a1).bind fun x0_2 => jn (fun (z6 : Int × Int) => jn (fun (z7 : Bool) => if z7 then (some ((⟨(0 : Int), ([] : List Nat), (0 : Int)⟩ : S46), (4 : Int))) else (jn (fun (z8 : Bool) => jn (fun (z11 : Unit) => (subL a0 (some a1) (some (fW .i64 (a1 + z6.2)))).bind fun x4_4 => some ((⟨z6.1, x4_4, a1⟩ : S46), (0 : Int))) (fun j11 => if z8 then (g59_l9 k j11 a0 a1 z6 k false a1) else (j11 ()))) (fun j8 => if (decide (z6.1 = 3)) then (if (decide (fW .i64 (a1 + z6.2) < (a0.length : Int))) then ((nthS a0 (fW .i64 (a1 + z6.2))).bind fun x3_11 => j8 (decide (x3_11 = 35))) else (j8 false)) else (j8 false)))) (fun j7 => if (decide (z6.2 = 0)) then (j7 true) else (if (decide (fW .i64 (a1 + z6.2) < (a0.length : Int))) then ((nthS a0 (fW .i64 (a1 + z6.2))).bind fun x2_10 => (g74 k x2_10).bind fun x2_11 => j7 x2_11) else (j7 false)))) (fun j6 => if (decide (x0_2 = 0)) then ((g73 k a0 a1).bind fun x1_2 => j6 (3, x1_2)) else (j6 (4, x0_2)))
theorem g59_ok (k : Nat) (a0 : (List Nat)) (a1 : Int) (r : (S46 × Int)) (h : g59 k a0 a1 = some r) : PureOk Try.prog 59 [.str a0, .int .i64 a1] (.tuple [.agg [.int .i64 r.1.f0, .str r.1.f1, .int .i64 r.1.f2], .int .i64 r.2]) := by
 refine pure_of X59 (fun _ => rfl) Try.func59 (by decide +kernel) (by kernel_rfl) (t := g59 k a0 a1) ?_ h
 unfold g59
 refine oE (eE := [(0, .str a0), (1, .int .i64 a1)]) (by kernel_rfl) ?_
 let E1 : Env := [(12, .int .i64 a1), (11, .str a0), (5, .int .i64 0), (4, .ptr 0 3 0), (0, .str a0), (1, .int .i64 a1)]
 refine oR 9 (p' := (atN 2 (ctl1 g59p1))) (eE := E1) (H' := (mkH [⟨[.int .i64 0, .str [], .int .i64 0], 0, false⟩])) (by kernel_rfl) ?_
 refine oC (fun (x0_2 : Int) => .int .i64 x0_2) (atN 3 (ctl1 g59p1)) (fun x0_2 => ((13, .int .i64 x0_2) :: E1)) (fi := 72) (args := [.str a0, .int .i64 a1]) (by kernel_rfl) (by kernel_rfl) (fun _ => by kernel_rfl) (fun r h => g72_ok k a0 a1 r h) (fun _ => by kernel_rfl) (fun x0_2 hx0_2 => ?_)
 let E2 : Env := ((15, .bool (decide (x0_2 = 0))) :: (14, .int .i64 x0_2) :: (7, .int .i64 x0_2) :: (6, .int .i64 4) :: (13, .int .i64 x0_2) :: E1)
 refine oR 9 (p' := g59p3) (eE := E2) (H' := (mkH [⟨[.int .i64 0, .str [], .int .i64 0], 0, false⟩])) (by kernel_rfl) ?_
 refine oJ (f := fun (z6 : Int × Int) => jn (fun (z7 : Bool) => if z7 then (some ((⟨(0 : Int), ([] : List Nat), (0 : Int)⟩ : S46), (4 : Int))) else (jn (fun (z8 : Bool) => jn (fun (z11 : Unit) => (subL a0 (some a1) (some (fW .i64 (a1 + z6.2)))).bind fun x4_4 => some ((⟨z6.1, x4_4, a1⟩ : S46), (0 : Int))) (fun j11 => if z8 then (g59_l9 k j11 a0 a1 z6 k false a1) else (j11 ()))) (fun j8 => if (decide (z6.1 = 3)) then (if (decide (fW .i64 (a1 + z6.2) < (a0.length : Int))) then ((nthS a0 (fW .i64 (a1 + z6.2))).bind fun x3_11 => j8 (decide (x3_11 = 35))) else (j8 false)) else (j8 false)))) (fun j7 => if (decide (z6.2 = 0)) then (j7 true) else (if (decide (fW .i64 (a1 + z6.2) < (a0.length : Int))) then ((nthS a0 (fW .i64 (a1 + z6.2))).bind fun x2_10 => (g74 k x2_10).bind fun x2_11 => j7 x2_11) else (j7 false)))) g59p5 (fun (z6 : Int × Int) => [(0, .str a0), (1, .int .i64 a1), (4, .ptr 0 3 0), (6, .int .i64 z6.1), (7, .int .i64 z6.2)]) (fun (z6 : Int × Int) => (mkH [⟨[.int .i64 0, .str [], .int .i64 0], 0, false⟩])) (fun z6 => ?_) (fun j6 hj6 => ?_)
 ·let E3 : Env := [(24, .bool (decide (z6.2 = 0))), (23, .bool (decide (z6.2 = 0))), (22, .int .i64 z6.2), (8, .int .i64 (fW .i64 (a1 + z6.2))), (21, .int .i64 (fW .i64 (a1 + z6.2))), (20, .int .i64 z6.2), (19, .int .i64 a1), (0, .str a0), (1, .int .i64 a1), (4, .ptr 0 3 0), (6, .int .i64 z6.1), (7, .int .i64 z6.2)]
  refine oR 12 (p' := (atN 3 (ctl1 g59p6))) (eE := E3) (H' := (mkH [⟨[.int .i64 0, .str [], .int .i64 0], 0, false⟩])) (by kernel_rfl) ?_
  refine oJ (f := fun (z7 : Bool) => if z7 then (some ((⟨(0 : Int), ([] : List Nat), (0 : Int)⟩ : S46), (4 : Int))) else (jn (fun (z8 : Bool) => jn (fun (z11 : Unit) => (subL a0 (some a1) (some (fW .i64 (a1 + z6.2)))).bind fun x4_4 => some ((⟨z6.1, x4_4, a1⟩ : S46), (0 : Int))) (fun j11 => if z8 then (g59_l9 k j11 a0 a1 z6 k false a1) else (j11 ()))) (fun j8 => if (decide (z6.1 = 3)) then (if (decide (fW .i64 (a1 + z6.2) < (a0.length : Int))) then ((nthS a0 (fW .i64 (a1 + z6.2))).bind fun x3_11 => j8 (decide (x3_11 = 35))) else (j8 false)) else (j8 false)))) g59p7 (fun (z7 : Bool) => [(0, .str a0), (1, .int .i64 a1), (4, .ptr 0 3 0), (6, .int .i64 z6.1), (8, .int .i64 (fW .i64 (a1 + z6.2))), (35, .bool z7)]) (fun (z7 : Bool) => (mkH [⟨[.int .i64 0, .str [], .int .i64 0], 0, false⟩])) (fun z7 => ?_) (fun j7 hj7 => ?_)
  ·refine oS 35 (b := z7) (by kernel_rfl) (fun hb => ?_) (fun hb => ?_)
   ·let E4 : Env := [(5, .int .i64 4), (36, .agg [.int .i64 0, .str [], .int .i64 0]), (35, .bool true), (0, .str a0), (1, .int .i64 a1), (4, .ptr 0 3 0), (6, .int .i64 z6.1), (8, .int .i64 (fW .i64 (a1 + z6.2))), (35, .bool z7)]
    refine oR 8 (p' := .fin) (eE := E4) (H' := (mkH [⟨[.int .i64 0, .str [], .int .i64 0], 3, false⟩])) (by kernel_rfl) ?_
    exact oT (r := ((⟨(0 : Int), ([] : List Nat), (0 : Int)⟩ : S46), (4 : Int))) (xs := [.agg [.int .i64 0, .str [], .int .i64 0], .int .i64 4]) (v := .tuple [.agg [.int .i64 0, .str [], .int .i64 0], .int .i64 4]) (by kernel_rfl) (by kernel_rfl) (by kernel_rfl) (.pures (by kernel_rfl)) (by kernel_rfl)
   ·let E5 : Env := [(39, .bool (decide (z6.1 = 3))), (38, .bool (decide (z6.1 = 3))), (37, .int .i64 z6.1), (35, .bool false), (0, .str a0), (1, .int .i64 a1), (4, .ptr 0 3 0), (6, .int .i64 z6.1), (8, .int .i64 (fW .i64 (a1 + z6.2))), (35, .bool z7)]
    refine oR 8 (p' := (atN 3 (ctl1 g59p9))) (eE := E5) (H' := (mkH [⟨[.int .i64 0, .str [], .int .i64 0], 0, false⟩])) (by kernel_rfl) ?_
    refine oJ (f := fun (z8 : Bool) => jn (fun (z11 : Unit) => (subL a0 (some a1) (some (fW .i64 (a1 + z6.2)))).bind fun x4_4 => some ((⟨z6.1, x4_4, a1⟩ : S46), (0 : Int))) (fun j11 => if z8 then (g59_l9 k j11 a0 a1 z6 k false a1) else (j11 ()))) g59p11 (fun (z8 : Bool) => [(0, .str a0), (1, .int .i64 a1), (4, .ptr 0 3 0), (6, .int .i64 z6.1), (8, .int .i64 (fW .i64 (a1 + z6.2))), (50, .bool z8)]) (fun (z8 : Bool) => (mkH [⟨[.int .i64 0, .str [], .int .i64 0], 0, false⟩])) (fun z8 => ?_) (fun j8 hj8 => ?_)
    ·refine oJ (f := fun (z11 : Unit) => (subL a0 (some a1) (some (fW .i64 (a1 + z6.2)))).bind fun x4_4 => some ((⟨z6.1, x4_4, a1⟩ : S46), (0 : Int))) g59p13 (fun (z11 : Unit) => [(0, .str a0), (1, .int .i64 a1), (4, .ptr 0 3 0), (6, .int .i64 z6.1), (8, .int .i64 (fW .i64 (a1 + z6.2)))]) (fun (z11 : Unit) => (mkH [⟨[.int .i64 0, .str [], .int .i64 0], 0, false⟩])) (fun z11 => ?_) (fun j11 hj11 => ?_)
     ·let E6 : Env := [(70, .int .i64 (fW .i64 (a1 + z6.2))), (69, .int .i64 a1), (68, .str a0), (67, .int .i64 z6.1), (0, .str a0), (1, .int .i64 a1), (4, .ptr 0 3 0), (6, .int .i64 z6.1), (8, .int .i64 (fW .i64 (a1 + z6.2)))]
      refine oR 5 (p' := (atN 4 (ctl1 g59p13))) (eE := E6) (H' := (mkH [⟨[.int .i64 0, .str [], .int .i64 0], 0, false⟩])) (by kernel_rfl) ?_
      refine oH (fun (x4_4 : (List Nat)) => (.str x4_4, (mkH [⟨[.int .i64 0, .str [], .int .i64 0], 0, false⟩]))) (atN 5 (ctl1 g59p13)) (fun x4_4 => ((71, .str x4_4) :: E6)) (subH (some a1) (some (fW .i64 (a1 + z6.2))) (by kernel_rfl)) (fun _ => by kernel_rfl) (fun x4_4 hx4_4 => ?_)
      refine oR 6 (p' := .fin) (eE := ((5, .int .i64 0) :: (73, .agg [.int .i64 z6.1, .str x4_4, .int .i64 a1]) :: (72, .int .i64 a1) :: (71, .str x4_4) :: E6)) (H' := (mkH [⟨[.int .i64 z6.1, .str x4_4, .int .i64 a1], 3, false⟩])) (by kernel_rfl) ?_
      exact oT (r := ((⟨z6.1, x4_4, a1⟩ : S46), (0 : Int))) (xs := [.agg [.int .i64 z6.1, .str x4_4, .int .i64 a1], .int .i64 0]) (v := .tuple [.agg [.int .i64 z6.1, .str x4_4, .int .i64 a1], .int .i64 0]) (by kernel_rfl) (by kernel_rfl) (by kernel_rfl) (.pures (by kernel_rfl)) (by kernel_rfl)
     ·refine oS 50 (b := z8) (by kernel_rfl) (fun hb => ?_) (fun hb => ?_)
      ·let E7 : Env := [(10, .int .i64 a1), (51, .int .i64 a1), (9, .bool false), (50, .bool true), (0, .str a0), (1, .int .i64 a1), (4, .ptr 0 3 0), (6, .int .i64 z6.1), (8, .int .i64 (fW .i64 (a1 + z6.2))), (50, .bool z8)]
       refine oR 13 (p' := g59p15) (eE := E7) (H' := (mkH [⟨[.int .i64 0, .str [], .int .i64 0], 0, false⟩])) (by kernel_rfl) ?_
       refine oK [0, 1, 4, 6, 8, 9, 10] (eE := [(0, .str a0), (1, .int .i64 a1), (4, .ptr 0 3 0), (6, .int .i64 z6.1), (8, .int .i64 (fW .i64 (a1 + z6.2))), (9, .bool false), (10, .int .i64 a1)]) (by kernel_rfl) ?_
       exact (g59_l9_ok k j11 a0 a1 z6 hj11 k) false a1
      ·let E14 : Env := [(50, .bool false), (0, .str a0), (1, .int .i64 a1), (4, .ptr 0 3 0), (6, .int .i64 z6.1), (8, .int .i64 (fW .i64 (a1 + z6.2))), (50, .bool z8)]
       refine oR 3 (p' := g59p13) (eE := E14) (H' := (mkH [⟨[.int .i64 0, .str [], .int .i64 0], 0, false⟩])) (by kernel_rfl) ?_
       refine oK [0, 1, 4, 6, 8] (eE := [(0, .str a0), (1, .int .i64 a1), (4, .ptr 0 3 0), (6, .int .i64 z6.1), (8, .int .i64 (fW .i64 (a1 + z6.2)))]) (by kernel_rfl) ?_
       exact hj11 ()
    ·refine oS 39 (b := decide (z6.1 = 3)) (by kernel_rfl) (fun hb => ?_) (fun hb => ?_)
     ·let E15 : Env := ((45, .bool (decide (fW .i64 (a1 + z6.2) < (a0.length : Int)))) :: (44, .bool (decide (fW .i64 (a1 + z6.2) < (a0.length : Int)))) :: (43, .bool (decide (fW .i64 (a1 + z6.2) < (a0.length : Int)))) :: (42, .int .i64 (a0.length : Int)) :: (41, .str a0) :: (40, .int .i64 (fW .i64 (a1 + z6.2))) :: (39, .bool true) :: E5)
      refine oR 6 (p' := (atN 9 (ctl1 g59p9))) (eE := E15) (H' := (mkH [⟨[.int .i64 0, .str [], .int .i64 0], 0, false⟩])) (by kernel_rfl) ?_
      refine oS 45 (b := decide (fW .i64 (a1 + z6.2) < (a0.length : Int))) (by kernel_rfl) (fun hb => ?_) (fun hb => ?_)
      ·refine oR 2 (p' := (atN 11 (ctl1 g59p9))) (eE := ((47, .int .i64 (fW .i64 (a1 + z6.2))) :: (46, .str a0) :: (45, .bool true) :: E15)) (H' := (mkH [⟨[.int .i64 0, .str [], .int .i64 0], 0, false⟩])) (by kernel_rfl) ?_
       refine oH (fun (x3_11 : Int) => (.int .u8 x3_11, (mkH [⟨[.int .i64 0, .str [], .int .i64 0], 0, false⟩]))) (atN 12 (ctl1 g59p9)) (fun x3_11 => ((48, .int .u8 x3_11) :: (47, .int .i64 (fW .i64 (a1 + z6.2))) :: (46, .str a0) :: (45, .bool true) :: E15)) (idxH (by kernel_rfl)) (fun _ => by kernel_rfl) (fun x3_11 hx3_11 => ?_)
       let E16 : Env := ((50, .bool (decide (x3_11 = 35))) :: (49, .bool (decide (x3_11 = 35))) :: (48, .int .u8 x3_11) :: (47, .int .i64 (fW .i64 (a1 + z6.2))) :: (46, .str a0) :: (45, .bool true) :: E15)
       refine oR 3 (p' := g59p11) (eE := E16) (H' := (mkH [⟨[.int .i64 0, .str [], .int .i64 0], 0, false⟩])) (by kernel_rfl) ?_
       refine oK [0, 1, 4, 6, 8, 50] (eE := [(0, .str a0), (1, .int .i64 a1), (4, .ptr 0 3 0), (6, .int .i64 z6.1), (8, .int .i64 (fW .i64 (a1 + z6.2))), (50, .bool (decide (x3_11 = 35)))]) (by kernel_rfl) ?_
       exact hj8 (decide (x3_11 = 35))
      ·let E17 : Env := ((50, .bool false) :: (49, .tuple []) :: (48, .tuple []) :: (47, .tuple []) :: (46, .tuple []) :: (45, .bool false) :: E15)
       refine oR 6 (p' := g59p11) (eE := E17) (H' := (mkH [⟨[.int .i64 0, .str [], .int .i64 0], 0, false⟩])) (by kernel_rfl) ?_
       refine oK [0, 1, 4, 6, 8, 50] (eE := [(0, .str a0), (1, .int .i64 a1), (4, .ptr 0 3 0), (6, .int .i64 z6.1), (8, .int .i64 (fW .i64 (a1 + z6.2))), (50, .bool false)]) (by kernel_rfl) ?_
       exact hj8 false
     ·let E18 : Env := ((50, .bool false) :: (49, .tuple []) :: (48, .tuple []) :: (47, .tuple []) :: (46, .tuple []) :: (45, .bool false) :: (44, .bool false) :: (43, .tuple []) :: (42, .tuple []) :: (41, .tuple []) :: (40, .tuple []) :: (39, .bool false) :: E5)
      refine oR 12 (p' := g59p11) (eE := E18) (H' := (mkH [⟨[.int .i64 0, .str [], .int .i64 0], 0, false⟩])) (by kernel_rfl) ?_
      refine oK [0, 1, 4, 6, 8, 50] (eE := [(0, .str a0), (1, .int .i64 a1), (4, .ptr 0 3 0), (6, .int .i64 z6.1), (8, .int .i64 (fW .i64 (a1 + z6.2))), (50, .bool false)]) (by kernel_rfl) ?_
      exact hj8 false
  ·refine oS 24 (b := decide (z6.2 = 0)) (by kernel_rfl) (fun hb => ?_) (fun hb => ?_)
   ·let E19 : Env := ((35, .bool true) :: (34, .tuple []) :: (33, .tuple []) :: (32, .tuple []) :: (31, .tuple []) :: (30, .tuple []) :: (29, .tuple []) :: (28, .tuple []) :: (27, .tuple []) :: (26, .tuple []) :: (25, .tuple []) :: (24, .bool true) :: E3)
    refine oR 12 (p' := g59p7) (eE := E19) (H' := (mkH [⟨[.int .i64 0, .str [], .int .i64 0], 0, false⟩])) (by kernel_rfl) ?_
    refine oK [0, 1, 4, 6, 8, 35] (eE := [(0, .str a0), (1, .int .i64 a1), (4, .ptr 0 3 0), (6, .int .i64 z6.1), (8, .int .i64 (fW .i64 (a1 + z6.2))), (35, .bool true)]) (by kernel_rfl) ?_
    exact hj7 true
   ·let E20 : Env := ((29, .bool (decide (fW .i64 (a1 + z6.2) < (a0.length : Int)))) :: (28, .bool (decide (fW .i64 (a1 + z6.2) < (a0.length : Int)))) :: (27, .int .i64 (a0.length : Int)) :: (26, .str a0) :: (25, .int .i64 (fW .i64 (a1 + z6.2))) :: (24, .bool false) :: E3)
    refine oR 5 (p' := (atN 8 (ctl1 g59p6))) (eE := E20) (H' := (mkH [⟨[.int .i64 0, .str [], .int .i64 0], 0, false⟩])) (by kernel_rfl) ?_
    refine oS 29 (b := decide (fW .i64 (a1 + z6.2) < (a0.length : Int))) (by kernel_rfl) (fun hb => ?_) (fun hb => ?_)
    ·refine oR 2 (p' := (atN 10 (ctl1 g59p6))) (eE := ((31, .int .i64 (fW .i64 (a1 + z6.2))) :: (30, .str a0) :: (29, .bool true) :: E20)) (H' := (mkH [⟨[.int .i64 0, .str [], .int .i64 0], 0, false⟩])) (by kernel_rfl) ?_
     refine oH (fun (x2_10 : Int) => (.int .u8 x2_10, (mkH [⟨[.int .i64 0, .str [], .int .i64 0], 0, false⟩]))) (atN 11 (ctl1 g59p6)) (fun x2_10 => ((32, .int .u8 x2_10) :: (31, .int .i64 (fW .i64 (a1 + z6.2))) :: (30, .str a0) :: (29, .bool true) :: E20)) (idxH (by kernel_rfl)) (fun _ => by kernel_rfl) (fun x2_10 hx2_10 => ?_)
     refine oC (fun (x2_11 : Bool) => .bool x2_11) (atN 12 (ctl1 g59p6)) (fun x2_11 => ((33, .bool x2_11) :: (32, .int .u8 x2_10) :: (31, .int .i64 (fW .i64 (a1 + z6.2))) :: (30, .str a0) :: (29, .bool true) :: E20)) (fi := 74) (args := [.int .u8 x2_10]) (by kernel_rfl) (by kernel_rfl) (fun _ => by kernel_rfl) (fun r h => g74_ok k x2_10 r h) (fun _ => by kernel_rfl) (fun x2_11 hx2_11 => ?_)
     let E21 : Env := ((35, .bool x2_11) :: (34, .bool x2_11) :: (33, .bool x2_11) :: (32, .int .u8 x2_10) :: (31, .int .i64 (fW .i64 (a1 + z6.2))) :: (30, .str a0) :: (29, .bool true) :: E20)
     refine oR 3 (p' := g59p7) (eE := E21) (H' := (mkH [⟨[.int .i64 0, .str [], .int .i64 0], 0, false⟩])) (by kernel_rfl) ?_
     refine oK [0, 1, 4, 6, 8, 35] (eE := [(0, .str a0), (1, .int .i64 a1), (4, .ptr 0 3 0), (6, .int .i64 z6.1), (8, .int .i64 (fW .i64 (a1 + z6.2))), (35, .bool x2_11)]) (by kernel_rfl) ?_
     exact hj7 x2_11
    ·let E22 : Env := ((35, .bool false) :: (34, .bool false) :: (33, .tuple []) :: (32, .tuple []) :: (31, .tuple []) :: (30, .tuple []) :: (29, .bool false) :: E20)
     refine oR 7 (p' := g59p7) (eE := E22) (H' := (mkH [⟨[.int .i64 0, .str [], .int .i64 0], 0, false⟩])) (by kernel_rfl) ?_
     refine oK [0, 1, 4, 6, 8, 35] (eE := [(0, .str a0), (1, .int .i64 a1), (4, .ptr 0 3 0), (6, .int .i64 z6.1), (8, .int .i64 (fW .i64 (a1 + z6.2))), (35, .bool false)]) (by kernel_rfl) ?_
     exact hj7 false
 ·refine oS 15 (b := decide (x0_2 = 0)) (by kernel_rfl) (fun hb => ?_) (fun hb => ?_)
  ·refine oR 4 (p' := (atN 2 (ctl1 g59p4))) (eE := ((17, .int .i64 a1) :: (16, .str a0) :: (15, .bool true) :: E2)) (H' := (mkH [⟨[.int .i64 0, .str [], .int .i64 0], 0, false⟩])) (by kernel_rfl) ?_
   refine oC (fun (x1_2 : Int) => .int .i64 x1_2) (atN 3 (ctl1 g59p4)) (fun x1_2 => ((18, .int .i64 x1_2) :: (17, .int .i64 a1) :: (16, .str a0) :: (15, .bool true) :: E2)) (fi := 73) (args := [.str a0, .int .i64 a1]) (by kernel_rfl) (by kernel_rfl) (fun _ => by kernel_rfl) (fun r h => g73_ok k a0 a1 r h) (fun _ => by kernel_rfl) (fun x1_2 hx1_2 => ?_)
   let E23 : Env := ((7, .int .i64 x1_2) :: (6, .int .i64 3) :: (18, .int .i64 x1_2) :: (17, .int .i64 a1) :: (16, .str a0) :: (15, .bool true) :: E2)
   refine oR 4 (p' := g59p5) (eE := E23) (H' := (mkH [⟨[.int .i64 0, .str [], .int .i64 0], 0, false⟩])) (by kernel_rfl) ?_
   refine oK [0, 1, 4, 6, 7] (eE := [(0, .str a0), (1, .int .i64 a1), (4, .ptr 0 3 0), (6, .int .i64 3), (7, .int .i64 x1_2)]) (by kernel_rfl) ?_
   exact hj6 (3, x1_2)
  ·refine oR 3 (p' := g59p5) (eE := ((15, .bool false) :: E2)) (H' := (mkH [⟨[.int .i64 0, .str [], .int .i64 0], 0, false⟩])) (by kernel_rfl) ?_
   refine oK [0, 1, 4, 6, 7] (eE := [(0, .str a0), (1, .int .i64 a1), (4, .ptr 0 3 0), (6, .int .i64 4), (7, .int .i64 x0_2)]) (by kernel_rfl) ?_
   exact hj6 (4, x0_2)
end
end Go.Proofs.Ytbmijiibfaacmaa.Am
set_option maxRecDepth 100000
set_option linter.unusedVariables false
namespace Go.Proofs.Ytbmijiibfaacmaa.Am
noncomputable section
open Go
def X60 : Fx Int := ⟨Try.prog, cx, Try.f60, fun r => .int .i64 r, 0, fun _ => H0, cxTi, cxOrd⟩
def g60p0 : Pt := nav [0] (bodyAt Try.f60)
def g60p1 : Pt := nav [0, 0, 0, 0, 0] g60p0
def g60p2 : Pt := nav [0, 0, 0] g60p1
def g60p3 : Pt := nav [0, 0] g60p2
def g60_l1 (k : Nat)  (a0 : (List Nat)) (n : Nat) : Int → Option Int :=
 Nat.rec (motive := fun _ => Int → Option Int) (fun _ => none) (fun _ ih => fun (y1_0 : Int) => jn (fun (z2 : Bool × Int) => if z2.1 then (ih (fW .i64 (z2.2 + 1))) else (some z2.2)) (fun j2 => if (decide (y1_0 < (a0.length : Int))) then ((nthS a0 y1_0).bind fun x0_7 => (g74 k x0_7).bind fun x0_8 => j2 (x0_8, y1_0)) else (j2 (false, y1_0)))) n
theorem g60_l1_s (k : Nat)  (a0 : (List Nat)) (n : Nat) (y1_0 : Int) : g60_l1 k a0 (n + 1) y1_0 = (jn (fun (z2 : Bool × Int) => if z2.1 then ((g60_l1 k a0 n) (fW .i64 (z2.2 + 1))) else (some z2.2)) (fun j2 => if (decide (y1_0 < (a0.length : Int))) then ((nthS a0 y1_0).bind fun x0_7 => (g74 k x0_7).bind fun x0_8 => j2 (x0_8, y1_0)) else (j2 (false, y1_0)))) := rfl
theorem g60_l1_ok (k : Nat)  (a0 : (List Nat))  : ∀ (n : Nat) (y1_0 : Int), Ok X60 g60p1 [(0, .str a0), (1, .int .i64 y1_0)] (mkH []) (g60_l1 k a0 n y1_0)
 | 0, _ => ok_none
 | n + 1, y1_0 => by
  have ih := g60_l1_ok k a0 n
  rw [g60_l1_s]
  refine ok_ent (p' := nav [0] g60p1) (by kernel_rfl) ?_
  let E1 : Env := [(9, .bool (decide (y1_0 < (a0.length : Int)))), (8, .bool (decide (y1_0 < (a0.length : Int)))), (7, .int .i64 (a0.length : Int)), (6, .str a0), (5, .int .i64 y1_0), (0, .str a0), (1, .int .i64 y1_0)]
  refine oR 8 (p' := (atN 5 (ctl1 g60p2))) (eE := E1) (H' := (mkH [])) (by kernel_rfl) ?_
  refine oJ (f := fun (z2 : Bool × Int) => if z2.1 then ((g60_l1 k a0 n) (fW .i64 (z2.2 + 1))) else (some z2.2)) g60p3 (fun (z2 : Bool × Int) => [(0, .str a0), (1, .int .i64 z2.2), (14, .bool z2.1)]) (fun (z2 : Bool × Int) => (mkH [])) (fun z2 => ?_) (fun j2 hj2 => ?_)
  ·refine oS 14 (b := z2.1) (by kernel_rfl) (fun hb => ?_) (fun hb => ?_)
   ·let E2 : Env := [(1, .int .i64 (fW .i64 (z2.2 + 1))), (16, .int .i64 (fW .i64 (z2.2 + 1))), (15, .int .i64 z2.2), (14, .bool true), (0, .str a0), (1, .int .i64 z2.2), (14, .bool z2.1)]
    refine oR 8 (p' := g60p1) (eE := E2) (H' := (mkH [])) (by kernel_rfl) ?_
    refine oK [0, 1] (eE := [(0, .str a0), (1, .int .i64 (fW .i64 (z2.2 + 1)))]) (by kernel_rfl) ?_
    exact ih (fW .i64 (z2.2 + 1))
   ·let E3 : Env := [(4, .int .i64 z2.2), (17, .int .i64 z2.2), (14, .bool false), (0, .str a0), (1, .int .i64 z2.2), (14, .bool z2.1)]
    refine oR 8 (p' := .fin) (eE := E3) (H' := (mkH [])) (by kernel_rfl) ?_
    exact oT (r := z2.2) (xs := [.int .i64 z2.2]) (v := .int .i64 z2.2) (by kernel_rfl) (by kernel_rfl) (by kernel_rfl) (.pures (by kernel_rfl)) (by kernel_rfl)
  ·refine oS 9 (b := decide (y1_0 < (a0.length : Int))) (by kernel_rfl) (fun hb => ?_) (fun hb => ?_)
   ·refine oR 2 (p' := (atN 7 (ctl1 g60p2))) (eE := ((11, .int .i64 y1_0) :: (10, .str a0) :: (9, .bool true) :: E1)) (H' := (mkH [])) (by kernel_rfl) ?_
    refine oH (fun (x0_7 : Int) => (.int .u8 x0_7, (mkH []))) (atN 8 (ctl1 g60p2)) (fun x0_7 => ((12, .int .u8 x0_7) :: (11, .int .i64 y1_0) :: (10, .str a0) :: (9, .bool true) :: E1)) (idxH (by kernel_rfl)) (fun _ => by kernel_rfl) (fun x0_7 hx0_7 => ?_)
    refine oC (fun (x0_8 : Bool) => .bool x0_8) (atN 9 (ctl1 g60p2)) (fun x0_8 => ((13, .bool x0_8) :: (12, .int .u8 x0_7) :: (11, .int .i64 y1_0) :: (10, .str a0) :: (9, .bool true) :: E1)) (fi := 74) (args := [.int .u8 x0_7]) (by kernel_rfl) (by kernel_rfl) (fun _ => by kernel_rfl) (fun r h => g74_ok k x0_7 r h) (fun _ => by kernel_rfl) (fun x0_8 hx0_8 => ?_)
    let E4 : Env := ((14, .bool x0_8) :: (13, .bool x0_8) :: (12, .int .u8 x0_7) :: (11, .int .i64 y1_0) :: (10, .str a0) :: (9, .bool true) :: E1)
    refine oR 2 (p' := g60p3) (eE := E4) (H' := (mkH [])) (by kernel_rfl) ?_
    refine oK [0, 1, 14] (eE := [(0, .str a0), (1, .int .i64 y1_0), (14, .bool x0_8)]) (by kernel_rfl) ?_
    exact hj2 (x0_8, y1_0)
   ·let E5 : Env := ((14, .bool false) :: (13, .tuple []) :: (12, .tuple []) :: (11, .tuple []) :: (10, .tuple []) :: (9, .bool false) :: E1)
    refine oR 6 (p' := g60p3) (eE := E5) (H' := (mkH [])) (by kernel_rfl) ?_
    refine oK [0, 1, 14] (eE := [(0, .str a0), (1, .int .i64 y1_0), (14, .bool false)]) (by kernel_rfl) ?_
    exact hj2 (false, y1_0)
def g60 (k : Nat) (a0 : (List Nat)) (a1 : Int) : Option Int :=
 g60_l1 k a0 k a1
theorem g60_ok (k : Nat) (a0 : (List Nat)) (a1 : Int) (r : Int) (h : g60 k a0 a1 = some r) : PureOk Try.prog 60 [.str a0, .int .i64 a1] (.int .i64 r) := by
 refine pure_of X60 (fun _ => rfl) Try.func60 (by decide +kernel) (by kernel_rfl) (t := g60 k a0 a1) ?_ h
 unfold g60
 refine oE (eE := [(0, .str a0), (1, .int .i64 a1)]) (by kernel_rfl) ?_
 refine oR 7 (p' := g60p1) (eE := [(4, .int .i64 0), (0, .str a0), (1, .int .i64 a1)]) (H' := (mkH [])) (by kernel_rfl) ?_
 refine oK [0, 1] (eE := [(0, .str a0), (1, .int .i64 a1)]) (by kernel_rfl) ?_
 exact (g60_l1_ok k a0 k) a1
end
end Go.Proofs.Ytbmijiibfaacmaa.Am
set_option maxRecDepth 100000
set_option linter.unusedVariables false
namespace Go.Proofs.Ytbmijiibfaacmaa.Am
noncomputable section
open Go
def X62 : Fx Int := ⟨Try.prog, cx, Try.f62, fun r => .int .i64 r, 0, fun _ => H0, cxTi, cxOrd⟩
def g62p0 : Pt := nav [0] (bodyAt Try.f62)
def g62p1 : Pt := nav [0, 0, 0] g62p0
def g62p2 : Pt := nav [0, 0, 0, 0, 0] g62p1
def g62p3 : Pt := nav [0, 0, 0] g62p2
def g62p4 : Pt := nav [0] g62p3
def g62p5 : Pt := nav [1, 0, 0, 0, 0] g62p4
def g62p6 : Pt := nav [2, 0, 0, 0] g62p4
def g62p7 : Pt := nav [0, 0] g62p5
def g62p8 : Pt := nav [0, 0] g62p6
def g62p10 : Pt := nav [2, 0, 0] g62p7
def g62p13 : Pt := nav [0, 0, 0, 0] g62p10
def g62p15 : Pt := nav [0, 0] g62p13
def g62_l3 (k : Nat)  (a0 : (List Nat)) (a1 : Int) (n : Nat) : Int → Option Int :=
 Nat.rec (motive := fun _ => Int → Option Int) (fun _ => none) (fun _ ih => fun (y3_0 : Int) => jn (fun (z4 : Bool × Int) => if z4.1 then ((nthS a0 z4.2).bind fun x1_2 => jn (fun (z5 : Int) => (g56 k a0 z5).bind fun x2_2 => jn (fun (z6 : Bool) => if z6 then (some (0 : Int)) else (ih (fW .i64 (z5 + x2_2.2)))) (fun j6 => if (decide (x2_2.1 < 32)) then (j6 true) else (j6 (decide (x2_2.1 = 127))))) (fun j5 => if (decide (x1_2 = 92)) then (j5 (fW .i64 (z4.2 + 1))) else (j5 z4.2))) else (if (decide ((a0.length : Int) ≤ z4.2)) then (some (0 : Int)) else (some (fW .i64 (fW .i64 (z4.2 + 1) - a1))))) (fun j4 => if (decide (y3_0 < (a0.length : Int))) then ((nthS a0 y3_0).bind fun x0_7 => (nthS a0 a1).bind fun x0_10 => j4 (!decide (x0_7 = x0_10), y3_0)) else (j4 (false, y3_0)))) n
theorem g62_l3_s (k : Nat)  (a0 : (List Nat)) (a1 : Int) (n : Nat) (y3_0 : Int) : g62_l3 k a0 a1 (n + 1) y3_0 = (jn (fun (z4 : Bool × Int) => if z4.1 then ((nthS a0 z4.2).bind fun x1_2 => jn (fun (z5 : Int) => (g56 k a0 z5).bind fun x2_2 => jn (fun (z6 : Bool) => if z6 then (some (0 : Int)) else ((g62_l3 k a0 a1 n) (fW .i64 (z5 + x2_2.2)))) (fun j6 => if (decide (x2_2.1 < 32)) then (j6 true) else (j6 (decide (x2_2.1 = 127))))) (fun j5 => if (decide (x1_2 = 92)) then (j5 (fW .i64 (z4.2 + 1))) else (j5 z4.2))) else (if (decide ((a0.length : Int) ≤ z4.2)) then (some (0 : Int)) else (some (fW .i64 (fW .i64 (z4.2 + 1) - a1))))) (fun j4 => if (decide (y3_0 < (a0.length : Int))) then ((nthS a0 y3_0).bind fun x0_7 => (nthS a0 a1).bind fun x0_10 => j4 (!decide (x0_7 = x0_10), y3_0)) else (j4 (false, y3_0)))) := rfl
theorem g62_l3_ok (k : Nat)  (a0 : (List Nat)) (a1 : Int)  : ∀ (n : Nat) (y3_0 : Int), Ok X62 g62p2 [(0, .str a0), (1, .int .i64 a1), (5, .int .i64 y3_0)] (mkH []) (g62_l3 k a0 a1 n y3_0)
 | 0, _ => ok_none
 | n + 1, y3_0 => by
  have ih := g62_l3_ok k a0 a1 n
  rw [g62_l3_s]
  refine ok_ent (p' := nav [0] g62p2) (by kernel_rfl) ?_
  refine oR 2 (p' := g62p3) (eE := [(0, .str a0), (1, .int .i64 a1), (5, .int .i64 y3_0)]) (H' := (mkH [])) (by kernel_rfl) ?_
  refine oJ (f := fun (z4 : Bool × Int) => if z4.1 then ((nthS a0 z4.2).bind fun x1_2 => jn (fun (z5 : Int) => (g56 k a0 z5).bind fun x2_2 => jn (fun (z6 : Bool) => if z6 then (some (0 : Int)) else ((g62_l3 k a0 a1 n) (fW .i64 (z5 + x2_2.2)))) (fun j6 => if (decide (x2_2.1 < 32)) then (j6 true) else (j6 (decide (x2_2.1 = 127))))) (fun j5 => if (decide (x1_2 = 92)) then (j5 (fW .i64 (z4.2 + 1))) else (j5 z4.2))) else (if (decide ((a0.length : Int) ≤ z4.2)) then (some (0 : Int)) else (some (fW .i64 (fW .i64 (z4.2 + 1) - a1))))) g62p4 (fun (z4 : Bool × Int) => [(0, .str a0), (1, .int .i64 a1), (5, .int .i64 z4.2), (22, .bool z4.1)]) (fun (z4 : Bool × Int) => (mkH [])) (fun z4 => ?_) (fun j4 hj4 => ?_)
  ·refine oS 22 (b := z4.1) (by kernel_rfl) (fun hb => ?_) (fun hb => ?_)
   ·let E2 : Env := [(24, .int .i64 z4.2), (23, .str a0), (22, .bool true), (0, .str a0), (1, .int .i64 a1), (5, .int .i64 z4.2), (22, .bool z4.1)]
    refine oR 8 (p' := (atN 2 (ctl1 g62p5))) (eE := E2) (H' := (mkH [])) (by kernel_rfl) ?_
    refine oH (fun (x1_2 : Int) => (.int .u8 x1_2, (mkH []))) (atN 3 (ctl1 g62p5)) (fun x1_2 => ((25, .int .u8 x1_2) :: E2)) (idxH (by kernel_rfl)) (fun _ => by kernel_rfl) (fun x1_2 hx1_2 => ?_)
    refine oR 2 (p' := g62p7) (eE := ((26, .bool (decide (x1_2 = 92))) :: (25, .int .u8 x1_2) :: E2)) (H' := (mkH [])) (by kernel_rfl) ?_
    refine oJ (f := fun (z5 : Int) => (g56 k a0 z5).bind fun x2_2 => jn (fun (z6 : Bool) => if z6 then (some (0 : Int)) else ((g62_l3 k a0 a1 n) (fW .i64 (z5 + x2_2.2)))) (fun j6 => if (decide (x2_2.1 < 32)) then (j6 true) else (j6 (decide (x2_2.1 = 127))))) g62p10 (fun (z5 : Int) => [(0, .str a0), (1, .int .i64 a1), (5, .int .i64 z5)]) (fun (z5 : Int) => (mkH [])) (fun z5 => ?_) (fun j5 hj5 => ?_)
    ·let E3 : Env := [(31, .int .i64 z5), (30, .str a0), (0, .str a0), (1, .int .i64 a1), (5, .int .i64 z5)]
     refine oR 3 (p' := (atN 2 (ctl1 g62p10))) (eE := E3) (H' := (mkH [])) (by kernel_rfl) ?_
     refine oC (fun (x2_2 : (Int × Int)) => .tuple [.int .i64 x2_2.1, .int .i64 x2_2.2]) (atN 3 (ctl1 g62p10)) (fun x2_2 => ((32, .tuple [.int .i64 x2_2.1, .int .i64 x2_2.2]) :: E3)) (fi := 56) (args := [.str a0, .int .i64 z5]) (by kernel_rfl) (by kernel_rfl) (fun _ => by kernel_rfl) (fun r h => g56_ok k a0 z5 r h) (fun _ => by kernel_rfl) (fun x2_2 hx2_2 => ?_)
     let E4 : Env := ((37, .bool (decide (x2_2.1 < 32))) :: (36, .bool (decide (x2_2.1 < 32))) :: (35, .int .i64 x2_2.1) :: (7, .int .i64 x2_2.2) :: (6, .int .i64 x2_2.1) :: (34, .int .i64 x2_2.2) :: (33, .int .i64 x2_2.1) :: (29, .tuple [.int .i64 x2_2.1, .int .i64 x2_2.2]) :: (32, .tuple [.int .i64 x2_2.1, .int .i64 x2_2.2]) :: E3)
     refine oR 12 (p' := (atN 3 (ctl1 g62p13))) (eE := E4) (H' := (mkH [])) (by kernel_rfl) ?_
     refine oJ (f := fun (z6 : Bool) => if z6 then (some (0 : Int)) else ((g62_l3 k a0 a1 n) (fW .i64 (z5 + x2_2.2)))) g62p15 (fun (z6 : Bool) => [(0, .str a0), (1, .int .i64 a1), (5, .int .i64 z5), (7, .int .i64 x2_2.2), (40, .bool z6)]) (fun (z6 : Bool) => (mkH [])) (fun z6 => ?_) (fun j6 hj6 => ?_)
     ·refine oS 40 (b := z6) (by kernel_rfl) (fun hb => ?_) (fun hb => ?_)
      ·let E5 : Env := [(4, .int .i64 0), (40, .bool true), (0, .str a0), (1, .int .i64 a1), (5, .int .i64 z5), (7, .int .i64 x2_2.2), (40, .bool z6)]
       refine oR 6 (p' := .fin) (eE := E5) (H' := (mkH [])) (by kernel_rfl) ?_
       exact oT (r := (0 : Int)) (xs := [.int .i64 0]) (v := .int .i64 0) (by kernel_rfl) (by kernel_rfl) (by kernel_rfl) (.pures (by kernel_rfl)) (by kernel_rfl)
      ·let E6 : Env := [(5, .int .i64 (fW .i64 (z5 + x2_2.2))), (43, .int .i64 (fW .i64 (z5 + x2_2.2))), (42, .int .i64 x2_2.2), (41, .int .i64 z5), (40, .bool false), (0, .str a0), (1, .int .i64 a1), (5, .int .i64 z5), (7, .int .i64 x2_2.2), (40, .bool z6)]
       refine oR 8 (p' := g62p2) (eE := E6) (H' := (mkH [])) (by kernel_rfl) ?_
       refine oK [0, 1, 5] (eE := [(0, .str a0), (1, .int .i64 a1), (5, .int .i64 (fW .i64 (z5 + x2_2.2)))]) (by kernel_rfl) ?_
       exact ih (fW .i64 (z5 + x2_2.2))
     ·refine oS 37 (b := decide (x2_2.1 < 32)) (by kernel_rfl) (fun hb => ?_) (fun hb => ?_)
      ·refine oR 4 (p' := g62p15) (eE := ((40, .bool true) :: (39, .tuple []) :: (38, .tuple []) :: (37, .bool true) :: E4)) (H' := (mkH [])) (by kernel_rfl) ?_
       refine oK [0, 1, 5, 7, 40] (eE := [(0, .str a0), (1, .int .i64 a1), (5, .int .i64 z5), (7, .int .i64 x2_2.2), (40, .bool true)]) (by kernel_rfl) ?_
       exact hj6 true
      ·refine oR 4 (p' := g62p15) (eE := ((40, .bool (decide (x2_2.1 = 127))) :: (39, .bool (decide (x2_2.1 = 127))) :: (38, .int .i64 x2_2.1) :: (37, .bool false) :: E4)) (H' := (mkH [])) (by kernel_rfl) ?_
       refine oK [0, 1, 5, 7, 40] (eE := [(0, .str a0), (1, .int .i64 a1), (5, .int .i64 z5), (7, .int .i64 x2_2.2), (40, .bool (decide (x2_2.1 = 127)))]) (by kernel_rfl) ?_
       exact hj6 (decide (x2_2.1 = 127))
    ·refine oS 26 (b := decide (x1_2 = 92)) (by kernel_rfl) (fun hb => ?_) (fun hb => ?_)
     ·let E7 : Env := ((5, .int .i64 (fW .i64 (z4.2 + 1))) :: (28, .int .i64 (fW .i64 (z4.2 + 1))) :: (27, .int .i64 z4.2) :: (26, .bool true) :: (26, .bool (decide (x1_2 = 92))) :: (25, .int .u8 x1_2) :: E2)
      refine oR 7 (p' := g62p10) (eE := E7) (H' := (mkH [])) (by kernel_rfl) ?_
      refine oK [0, 1, 5] (eE := [(0, .str a0), (1, .int .i64 a1), (5, .int .i64 (fW .i64 (z4.2 + 1)))]) (by kernel_rfl) ?_
      exact hj5 (fW .i64 (z4.2 + 1))
     ·refine oR 3 (p' := g62p10) (eE := ((26, .bool false) :: (26, .bool (decide (x1_2 = 92))) :: (25, .int .u8 x1_2) :: E2)) (H' := (mkH [])) (by kernel_rfl) ?_
      refine oK [0, 1, 5] (eE := [(0, .str a0), (1, .int .i64 a1), (5, .int .i64 z4.2)]) (by kernel_rfl) ?_
      exact hj5 z4.2
   ·let E8 : Env := [(47, .bool (decide ((a0.length : Int) ≤ z4.2))), (46, .int .i64 (a0.length : Int)), (45, .str a0), (44, .int .i64 z4.2), (22, .bool false), (0, .str a0), (1, .int .i64 a1), (5, .int .i64 z4.2), (22, .bool z4.1)]
    refine oR 10 (p' := g62p8) (eE := E8) (H' := (mkH [])) (by kernel_rfl) ?_
    refine oS 47 (b := decide ((a0.length : Int) ≤ z4.2)) (by kernel_rfl) (fun hb => ?_) (fun hb => ?_)
    ·refine oR 6 (p' := .fin) (eE := ((4, .int .i64 0) :: (47, .bool true) :: E8)) (H' := (mkH [])) (by kernel_rfl) ?_
     exact oT (r := (0 : Int)) (xs := [.int .i64 0]) (v := .int .i64 0) (by kernel_rfl) (by kernel_rfl) (by kernel_rfl) (.pures (by kernel_rfl)) (by kernel_rfl)
    ·let E9 : Env := ((4, .int .i64 (fW .i64 (fW .i64 (z4.2 + 1) - a1))) :: (51, .int .i64 (fW .i64 (fW .i64 (z4.2 + 1) - a1))) :: (50, .int .i64 a1) :: (49, .int .i64 (fW .i64 (z4.2 + 1))) :: (48, .int .i64 z4.2) :: (47, .bool false) :: E8)
     refine oR 11 (p' := .fin) (eE := E9) (H' := (mkH [])) (by kernel_rfl) ?_
     exact oT (r := (fW .i64 (fW .i64 (z4.2 + 1) - a1))) (xs := [.int .i64 (fW .i64 (fW .i64 (z4.2 + 1) - a1))]) (v := .int .i64 (fW .i64 (fW .i64 (z4.2 + 1) - a1))) (by kernel_rfl) (by kernel_rfl) (by kernel_rfl) (.pures (by kernel_rfl)) (by kernel_rfl)
  ·refine ok_if (fun hb4 => ?_) (fun hb4 => ?_)
   ·refine ok_bind (fun x0_7 hx0_7 => ?_)
    refine ok_bind (fun x0_10 hx0_10 => ?_)
    let E10 : Env := [(14, .bool (decide (y3_0 < (a0.length : Int)))), (13, .bool (decide (y3_0 < (a0.length : Int)))), (12, .int .i64 (a0.length : Int)), (11, .str a0), (10, .int .i64 y3_0), (0, .str a0), (1, .int .i64 a1), (5, .int .i64 y3_0)]
    let E11 : Env := [(16, .int .i64 y3_0), (15, .str a0), (14, .bool true), (13, .bool true), (12, .int .i64 (a0.length : Int)), (11, .str a0), (10, .int .i64 y3_0), (0, .str a0), (1, .int .i64 a1), (5, .int .i64 y3_0)]
    let E12 : Env := ((22, .bool (!decide (x0_7 = x0_10))) :: (21, .bool (!decide (x0_7 = x0_10))) :: (20, .int .u8 x0_10) :: (19, .int .i64 a1) :: (18, .str a0) :: (17, .int .u8 x0_7) :: E11)
    refine ok_draw (p' := nav [0] g62p3) (eE := E12) (H' := (mkH [])) (hs := []) [(0, 0, 0), (0, 0, 0), (2, 0, 0), (7, 0, 0), (15, 0, 0), (31, 0, 0), (31, 0, 0), (127, 0, 0), (31, 0, 0), (31, 0, 0), (799, 0, 0), (2047, 0, 0), (4095, 0, 0)] (by kernel_rfl) (by kernel_rfl) (by kernel_rfl) (opsD_run 5 (l' := (opsAt g62p3).toList.drop 5) (eE := E10) (H' := (mkH [])) (hs := []) (by kernel_rfl) (opsD_env (eE := [(14, .bool true), (13, .bool true), (12, .int .i64 (a0.length : Int)), (11, .str a0), (10, .int .i64 y3_0), (0, .str a0), (1, .int .i64 a1), (5, .int .i64 y3_0)]) (congrArg (fun z : Bool => ([(14, .bool z), (13, .bool z), (12, .int .i64 (a0.length : Int)), (11, .str a0), (10, .int .i64 y3_0), (0, .str a0), (1, .int .i64 a1), (5, .int .i64 y3_0)] : Env)) hb4) (opsD_run 2 (l' := (opsAt g62p3).toList.drop 7) (eE := E11) (H' := (mkH [])) (hs := []) (by kernel_rfl) (opsD_chk (l' := (opsAt g62p3).toList.drop 8) (eE := ((17, .int .u8 x0_7) :: E11)) (hs := []) (x := x0_7) (fun (x0_7 : Int) => (.int .u8 x0_7, (mkH []))) (idxH (by kernel_rfl)) hx0_7 (by kernel_rfl) (opsD_run 2 (l' := (opsAt g62p3).toList.drop 10) (eE := ((19, .int .i64 a1) :: (18, .str a0) :: (17, .int .u8 x0_7) :: E11)) (H' := (mkH [])) (hs := []) (by kernel_rfl) (opsD_chk (l' := (opsAt g62p3).toList.drop 11) (eE := ((20, .int .u8 x0_10) :: (19, .int .i64 a1) :: (18, .str a0) :: (17, .int .u8 x0_7) :: E11)) (hs := []) (x := x0_10) (fun (x0_10 : Int) => (.int .u8 x0_10, (mkH []))) (idxH (by kernel_rfl)) hx0_10 (by kernel_rfl) (opsD_run 2 (l' := (opsAt g62p3).toList.drop 13) (eE := E12) (H' := (mkH [])) (hs := []) (by kernel_rfl) (.nil)))))))) (by kernel_rfl) (by kernel_rfl) (by kernel_rfl) ?_
    refine oK [0, 1, 5, 22] (eE := [(0, .str a0), (1, .int .i64 a1), (5, .int .i64 y3_0), (22, .bool (!decide (x0_7 = x0_10)))]) (by kernel_rfl) ?_
    exact hj4 (!decide (x0_7 = x0_10), y3_0)
   ·let E10 : Env := [(14, .bool (decide (y3_0 < (a0.length : Int)))), (13, .bool (decide (y3_0 < (a0.length : Int)))), (12, .int .i64 (a0.length : Int)), (11, .str a0), (10, .int .i64 y3_0), (0, .str a0), (1, .int .i64 a1), (5, .int .i64 y3_0)]
    let E13 : Env := [(22, .bool false), (21, .tuple []), (20, .tuple []), (19, .tuple []), (18, .tuple []), (17, .tuple []), (16, .tuple []), (15, .tuple []), (14, .bool false), (13, .bool false), (12, .int .i64 (a0.length : Int)), (11, .str a0), (10, .int .i64 y3_0), (0, .str a0), (1, .int .i64 a1), (5, .int .i64 y3_0)]
    refine ok_draw (p' := nav [0] g62p3) (eE := E13) (H' := (mkH [])) (hs := []) [(0, 0, 0), (0, 0, 0), (2, 0, 0), (7, 0, 0), (15, 0, 0), (31, 0, 0), (31, 0, 0), (127, 0, 0), (31, 0, 0), (31, 0, 0), (799, 0, 0), (2047, 0, 0), (4095, 0, 0)] (by kernel_rfl) (by kernel_rfl) (by kernel_rfl) (opsD_run 5 (l' := (opsAt g62p3).toList.drop 5) (eE := E10) (H' := (mkH [])) (hs := []) (by kernel_rfl) (opsD_env (eE := [(14, .bool false), (13, .bool false), (12, .int .i64 (a0.length : Int)), (11, .str a0), (10, .int .i64 y3_0), (0, .str a0), (1, .int .i64 a1), (5, .int .i64 y3_0)]) (congrArg (fun z : Bool => ([(14, .bool z), (13, .bool z), (12, .int .i64 (a0.length : Int)), (11, .str a0), (10, .int .i64 y3_0), (0, .str a0), (1, .int .i64 a1), (5, .int .i64 y3_0)] : Env)) hb4) (opsD_run 8 (l' := (opsAt g62p3).toList.drop 13) (eE := E13) (H' := (mkH [])) (hs := []) (by kernel_rfl) (.nil)))) (by kernel_rfl) (by kernel_rfl) (by kernel_rfl) ?_
    refine oK [0, 1, 5, 22] (eE := [(0, .str a0), (1, .int .i64 a1), (5, .int .i64 y3_0), (22, .bool false)]) (by kernel_rfl) ?_
    exact hj4 (false, y3_0)
def g62 (k : Nat) (a0 : (List Nat)) (a1 : Int) : Option Int :=
 g62_l3 k a0 a1 k (fW .i64 (a1 + 1))
theorem g62_ok (k : Nat) (a0 : (List Nat)) (a1 : Int) (r : Int) (h : g62 k a0 a1 = some r) : PureOk Try.prog 62 [.str a0, .int .i64 a1] (.int .i64 r) := by
 refine pure_of X62 (fun _ => rfl) Try.func62 (by decide +kernel) (by kernel_rfl) (t := g62 k a0 a1) ?_ h
 unfold g62
 refine oE (eE := [(0, .str a0), (1, .int .i64 a1)]) (by kernel_rfl) ?_
 let E1 : Env := [(5, .int .i64 (fW .i64 (a1 + 1))), (9, .int .i64 (fW .i64 (a1 + 1))), (8, .int .i64 a1), (4, .int .i64 0), (0, .str a0), (1, .int .i64 a1)]
 refine oR 13 (p' := g62p2) (eE := E1) (H' := (mkH [])) (by kernel_rfl) ?_
 refine oK [0, 1, 5] (eE := [(0, .str a0), (1, .int .i64 a1), (5, .int .i64 (fW .i64 (a1 + 1)))]) (by kernel_rfl) ?_
 exact (g62_l3_ok k a0 a1 k) (fW .i64 (a1 + 1))
end
end Go.Proofs.Ytbmijiibfaacmaa.Am
set_option maxRecDepth 100000
set_option linter.unusedVariables false
namespace Go.Proofs.Ytbmijiibfaacmaa.Am
noncomputable section
open Go
def X77 : Fx (Int × Int) := ⟨Try.prog, cx, Try.f77, fun r => .tuple [.int .i64 r.1, .int .i64 r.2], 0, fun _ => H0, cxTi, cxOrd⟩
def g77p0 : Pt := nav [0] (bodyAt Try.f77)
def g77p1 : Pt := nav [0, 0, 0] g77p0
def g77p2 : Pt := nav [0, 0, 0, 0, 0] g77p1
def g77p3 : Pt := nav [0, 0, 0] g77p2
def g77p4 : Pt := nav [0, 0] g77p3
def g77p5 : Pt := nav [1, 0, 0, 0] g77p4
def g77p7 : Pt := nav [0, 0] g77p5
def g77_l2 (k : Nat)  (a0 : (List Nat)) (a1 : Int) (a2 : Int) (a3 : Int) (n : Nat) : Int → Int → Option (Int × Int) :=
 Nat.rec (motive := fun _ => Int → Int → Option (Int × Int)) (fun _ _ => none) (fun _ ih => fun (y2_0 : Int) (y2_1 : Int) => jn (fun (z3 : Bool × Int × Int) => if z3.1 then ((nthS a0 (fW .i64 (a1 + z3.2.2))).bind fun x1_7 => (g78 k x1_7 a2).bind fun x1_9 => ih (fW .i64 (fW .i64 (z3.2.1 * a2) + x1_9)) (fW .i64 (z3.2.2 + 1))) else (some (z3.2.1, z3.2.2))) (fun j3 => if (decide (y2_1 < a3)) then (if (decide (fW .i64 (a1 + y2_1) < (a0.length : Int))) then ((nthS a0 (fW .i64 (a1 + y2_1))).bind fun x0_16 => (g78 k x0_16 a2).bind fun x0_18 => j3 (decide (0 ≤ x0_18), y2_0, y2_1)) else (j3 (false, y2_0, y2_1))) else (j3 (false, y2_0, y2_1)))) n
theorem g77_l2_s (k : Nat)  (a0 : (List Nat)) (a1 : Int) (a2 : Int) (a3 : Int) (n : Nat) (y2_0 : Int) (y2_1 : Int) : g77_l2 k a0 a1 a2 a3 (n + 1) y2_0 y2_1 = (jn (fun (z3 : Bool × Int × Int) => if z3.1 then ((nthS a0 (fW .i64 (a1 + z3.2.2))).bind fun x1_7 => (g78 k x1_7 a2).bind fun x1_9 => (g77_l2 k a0 a1 a2 a3 n) (fW .i64 (fW .i64 (z3.2.1 * a2) + x1_9)) (fW .i64 (z3.2.2 + 1))) else (some (z3.2.1, z3.2.2))) (fun j3 => if (decide (y2_1 < a3)) then (if (decide (fW .i64 (a1 + y2_1) < (a0.length : Int))) then ((nthS a0 (fW .i64 (a1 + y2_1))).bind fun x0_16 => (g78 k x0_16 a2).bind fun x0_18 => j3 (decide (0 ≤ x0_18), y2_0, y2_1)) else (j3 (false, y2_0, y2_1))) else (j3 (false, y2_0, y2_1)))) := rfl
theorem g77_l2_ok (k : Nat)  (a0 : (List Nat)) (a1 : Int) (a2 : Int) (a3 : Int)  : ∀ (n : Nat) (y2_0 : Int) (y2_1 : Int), Ok X77 g77p2 [(0, .str a0), (1, .int .i64 a1), (2, .int .i64 a2), (3, .int .i64 a3), (10, .int .i64 y2_0), (11, .int .i64 y2_1)] (mkH []) (g77_l2 k a0 a1 a2 a3 n y2_0 y2_1)
 | 0, _, _ => ok_none
 | n + 1, y2_0, y2_1 => by
  have ih := g77_l2_ok k a0 a1 a2 a3 n
  rw [g77_l2_s]
  refine ok_ent (p' := nav [0] g77p2) (by kernel_rfl) ?_
  let E2 : Env := [(15, .bool (decide (y2_1 < a3))), (14, .bool (decide (y2_1 < a3))), (13, .int .i64 a3), (12, .int .i64 y2_1), (0, .str a0), (1, .int .i64 a1), (2, .int .i64 a2), (3, .int .i64 a3), (10, .int .i64 y2_0), (11, .int .i64 y2_1)]
  refine oR 7 (p' := (atN 4 (ctl1 g77p3))) (eE := E2) (H' := (mkH [])) (by kernel_rfl) ?_
  refine oJ (f := fun (z3 : Bool × Int × Int) => if z3.1 then ((nthS a0 (fW .i64 (a1 + z3.2.2))).bind fun x1_7 => (g78 k x1_7 a2).bind fun x1_9 => (g77_l2 k a0 a1 a2 a3 n) (fW .i64 (fW .i64 (z3.2.1 * a2) + x1_9)) (fW .i64 (z3.2.2 + 1))) else (some (z3.2.1, z3.2.2))) g77p4 (fun (z3 : Bool × Int × Int) => [(0, .str a0), (1, .int .i64 a1), (2, .int .i64 a2), (3, .int .i64 a3), (10, .int .i64 z3.2.1), (11, .int .i64 z3.2.2), (32, .bool z3.1)]) (fun (z3 : Bool × Int × Int) => (mkH [])) (fun z3 => ?_) (fun j3 hj3 => ?_)
  ·refine oS 32 (b := z3.1) (by kernel_rfl) (fun hb => ?_) (fun hb => ?_)
   ·let E3 : Env := [(39, .int .i64 (fW .i64 (a1 + z3.2.2))), (38, .int .i64 z3.2.2), (37, .int .i64 a1), (36, .str a0), (35, .int .i64 (fW .i64 (z3.2.1 * a2))), (34, .int .i64 a2), (33, .int .i64 z3.2.1), (32, .bool true), (0, .str a0), (1, .int .i64 a1), (2, .int .i64 a2), (3, .int .i64 a3), (10, .int .i64 z3.2.1), (11, .int .i64 z3.2.2), (32, .bool z3.1)]
    refine oR 12 (p' := (atN 7 (ctl1 g77p5))) (eE := E3) (H' := (mkH [])) (by kernel_rfl) ?_
    refine oH (fun (x1_7 : Int) => (.int .u8 x1_7, (mkH []))) (atN 8 (ctl1 g77p5)) (fun x1_7 => ((40, .int .u8 x1_7) :: E3)) (idxH (by kernel_rfl)) (fun _ => by kernel_rfl) (fun x1_7 hx1_7 => ?_)
    refine oR 1 (p' := (atN 9 (ctl1 g77p5))) (eE := ((41, .int .i64 a2) :: (40, .int .u8 x1_7) :: E3)) (H' := (mkH [])) (by kernel_rfl) ?_
    refine oC (fun (x1_9 : Int) => .int .i64 x1_9) (atN 10 (ctl1 g77p5)) (fun x1_9 => ((42, .int .i64 x1_9) :: (41, .int .i64 a2) :: (40, .int .u8 x1_7) :: E3)) (fi := 78) (args := [.int .u8 x1_7, .int .i64 a2]) (by kernel_rfl) (by kernel_rfl) (fun _ => by kernel_rfl) (fun r h => g78_ok k x1_7 a2 r h) (fun _ => by kernel_rfl) (fun x1_9 hx1_9 => ?_)
    let E4 : Env := ((10, .int .i64 (fW .i64 (fW .i64 (z3.2.1 * a2) + x1_9))) :: (43, .int .i64 (fW .i64 (fW .i64 (z3.2.1 * a2) + x1_9))) :: (42, .int .i64 x1_9) :: (41, .int .i64 a2) :: (40, .int .u8 x1_7) :: E3)
    refine oR 3 (p' := g77p7) (eE := E4) (H' := (mkH [])) (by kernel_rfl) ?_
    refine oK [0, 1, 2, 3, 10, 11] (eE := [(0, .str a0), (1, .int .i64 a1), (2, .int .i64 a2), (3, .int .i64 a3), (10, .int .i64 (fW .i64 (fW .i64 (z3.2.1 * a2) + x1_9))), (11, .int .i64 z3.2.2)]) (by kernel_rfl) ?_
    let E5 : Env := [(11, .int .i64 (fW .i64 (z3.2.2 + 1))), (45, .int .i64 (fW .i64 (z3.2.2 + 1))), (44, .int .i64 z3.2.2), (0, .str a0), (1, .int .i64 a1), (2, .int .i64 a2), (3, .int .i64 a3), (10, .int .i64 (fW .i64 (fW .i64 (z3.2.1 * a2) + x1_9))), (11, .int .i64 z3.2.2)]
    refine oR 5 (p' := g77p2) (eE := E5) (H' := (mkH [])) (by kernel_rfl) ?_
    refine oK [0, 1, 2, 3, 10, 11] (eE := [(0, .str a0), (1, .int .i64 a1), (2, .int .i64 a2), (3, .int .i64 a3), (10, .int .i64 (fW .i64 (fW .i64 (z3.2.1 * a2) + x1_9))), (11, .int .i64 (fW .i64 (z3.2.2 + 1)))]) (by kernel_rfl) ?_
    exact ih (fW .i64 (fW .i64 (z3.2.1 * a2) + x1_9)) (fW .i64 (z3.2.2 + 1))
   ·let E6 : Env := [(9, .int .i64 z3.2.2), (8, .int .i64 z3.2.1), (47, .int .i64 z3.2.2), (46, .int .i64 z3.2.1), (32, .bool false), (0, .str a0), (1, .int .i64 a1), (2, .int .i64 a2), (3, .int .i64 a3), (10, .int .i64 z3.2.1), (11, .int .i64 z3.2.2), (32, .bool z3.1)]
    refine oR 10 (p' := .fin) (eE := E6) (H' := (mkH [])) (by kernel_rfl) ?_
    exact oT (r := (z3.2.1, z3.2.2)) (xs := [.int .i64 z3.2.1, .int .i64 z3.2.2]) (v := .tuple [.int .i64 z3.2.1, .int .i64 z3.2.2]) (by kernel_rfl) (by kernel_rfl) (by kernel_rfl) (.pures (by kernel_rfl)) (by kernel_rfl)
  ·refine oS 15 (b := decide (y2_1 < a3)) (by kernel_rfl) (fun hb => ?_) (fun hb => ?_)
   ·let E7 : Env := ((23, .bool (decide (fW .i64 (a1 + y2_1) < (a0.length : Int)))) :: (22, .bool (decide (fW .i64 (a1 + y2_1) < (a0.length : Int)))) :: (21, .bool (decide (fW .i64 (a1 + y2_1) < (a0.length : Int)))) :: (20, .int .i64 (a0.length : Int)) :: (19, .str a0) :: (18, .int .i64 (fW .i64 (a1 + y2_1))) :: (17, .int .i64 y2_1) :: (16, .int .i64 a1) :: (15, .bool true) :: E2)
    refine oR 8 (p' := (atN 12 (ctl1 g77p3))) (eE := E7) (H' := (mkH [])) (by kernel_rfl) ?_
    refine oS 23 (b := decide (fW .i64 (a1 + y2_1) < (a0.length : Int))) (by kernel_rfl) (fun hb => ?_) (fun hb => ?_)
    ·let E8 : Env := ((27, .int .i64 (fW .i64 (a1 + y2_1))) :: (26, .int .i64 y2_1) :: (25, .int .i64 a1) :: (24, .str a0) :: (23, .bool true) :: E7)
     refine oR 4 (p' := (atN 16 (ctl1 g77p3))) (eE := E8) (H' := (mkH [])) (by kernel_rfl) ?_
     refine oH (fun (x0_16 : Int) => (.int .u8 x0_16, (mkH []))) (atN 17 (ctl1 g77p3)) (fun x0_16 => ((28, .int .u8 x0_16) :: E8)) (idxH (by kernel_rfl)) (fun _ => by kernel_rfl) (fun x0_16 hx0_16 => ?_)
     refine oR 1 (p' := (atN 18 (ctl1 g77p3))) (eE := ((29, .int .i64 a2) :: (28, .int .u8 x0_16) :: E8)) (H' := (mkH [])) (by kernel_rfl) ?_
     refine oC (fun (x0_18 : Int) => .int .i64 x0_18) (atN 19 (ctl1 g77p3)) (fun x0_18 => ((30, .int .i64 x0_18) :: (29, .int .i64 a2) :: (28, .int .u8 x0_16) :: E8)) (fi := 78) (args := [.int .u8 x0_16, .int .i64 a2]) (by kernel_rfl) (by kernel_rfl) (fun _ => by kernel_rfl) (fun r h => g78_ok k x0_16 a2 r h) (fun _ => by kernel_rfl) (fun x0_18 hx0_18 => ?_)
     let E9 : Env := ((32, .bool (decide (0 ≤ x0_18))) :: (31, .bool (decide (0 ≤ x0_18))) :: (30, .int .i64 x0_18) :: (29, .int .i64 a2) :: (28, .int .u8 x0_16) :: E8)
     refine oR 3 (p' := g77p4) (eE := E9) (H' := (mkH [])) (by kernel_rfl) ?_
     refine oK [0, 1, 2, 3, 10, 11, 32] (eE := [(0, .str a0), (1, .int .i64 a1), (2, .int .i64 a2), (3, .int .i64 a3), (10, .int .i64 y2_0), (11, .int .i64 y2_1), (32, .bool (decide (0 ≤ x0_18)))]) (by kernel_rfl) ?_
     exact hj3 (decide (0 ≤ x0_18), y2_0, y2_1)
    ·let E10 : Env := ((32, .bool false) :: (31, .tuple []) :: (30, .tuple []) :: (29, .tuple []) :: (28, .tuple []) :: (27, .tuple []) :: (26, .tuple []) :: (25, .tuple []) :: (24, .tuple []) :: (23, .bool false) :: E7)
     refine oR 10 (p' := g77p4) (eE := E10) (H' := (mkH [])) (by kernel_rfl) ?_
     refine oK [0, 1, 2, 3, 10, 11, 32] (eE := [(0, .str a0), (1, .int .i64 a1), (2, .int .i64 a2), (3, .int .i64 a3), (10, .int .i64 y2_0), (11, .int .i64 y2_1), (32, .bool false)]) (by kernel_rfl) ?_
     exact hj3 (false, y2_0, y2_1)
   ·let E11 : Env := ((32, .bool false) :: (31, .tuple []) :: (30, .tuple []) :: (29, .tuple []) :: (28, .tuple []) :: (27, .tuple []) :: (26, .tuple []) :: (25, .tuple []) :: (24, .tuple []) :: (23, .bool false) :: (22, .bool false) :: (21, .tuple []) :: (20, .tuple []) :: (19, .tuple []) :: (18, .tuple []) :: (17, .tuple []) :: (16, .tuple []) :: (15, .bool false) :: E2)
    refine oR 18 (p' := g77p4) (eE := E11) (H' := (mkH [])) (by kernel_rfl) ?_
    refine oK [0, 1, 2, 3, 10, 11, 32] (eE := [(0, .str a0), (1, .int .i64 a1), (2, .int .i64 a2), (3, .int .i64 a3), (10, .int .i64 y2_0), (11, .int .i64 y2_1), (32, .bool false)]) (by kernel_rfl) ?_
    exact hj3 (false, y2_0, y2_1)
def g77 (k : Nat) (a0 : (List Nat)) (a1 : Int) (a2 : Int) (a3 : Int) : Option (Int × Int) :=
 g77_l2 k a0 a1 a2 a3 k 0 0
theorem g77_ok (k : Nat) (a0 : (List Nat)) (a1 : Int) (a2 : Int) (a3 : Int) (r : (Int × Int)) (h : g77 k a0 a1 a2 a3 = some r) : PureOk Try.prog 77 [.str a0, .int .i64 a1, .int .i64 a2, .int .i64 a3] (.tuple [.int .i64 r.1, .int .i64 r.2]) := by
 refine pure_of X77 (fun _ => rfl) Try.func77 (by decide +kernel) (by kernel_rfl) (t := g77 k a0 a1 a2 a3) ?_ h
 unfold g77
 refine oE (eE := [(0, .str a0), (1, .int .i64 a1), (2, .int .i64 a2), (3, .int .i64 a3)]) (by kernel_rfl) ?_
 let E1 : Env := [(11, .int .i64 0), (10, .int .i64 0), (9, .int .i64 0), (8, .int .i64 0), (0, .str a0), (1, .int .i64 a1), (2, .int .i64 a2), (3, .int .i64 a3)]
 refine oR 13 (p' := g77p2) (eE := E1) (H' := (mkH [])) (by kernel_rfl) ?_
 refine oK [0, 1, 2, 3, 10, 11] (eE := [(0, .str a0), (1, .int .i64 a1), (2, .int .i64 a2), (3, .int .i64 a3), (10, .int .i64 0), (11, .int .i64 0)]) (by kernel_rfl) ?_
 exact (g77_l2_ok k a0 a1 a2 a3 k) 0 0
end
end Go.Proofs.Ytbmijiibfaacmaa.Am
set_option maxRecDepth 100000
set_option linter.unusedVariables false
namespace Go.Proofs.Ytbmijiibfaacmaa.Am
noncomputable section
open Go
def X75 : Fx (Int × Int) := ⟨Try.prog, cx, Try.f75, fun r => .tuple [.int .i64 r.1, .int .i64 r.2], 0, fun _ => H0, cxTi, cxOrd⟩
def g75c0 : List Int := [(8 : Int), (127 : Int), (27 : Int), (12 : Int), (10 : Int), (13 : Int), (32 : Int), (9 : Int), (11 : Int)]
def g75c1 : List Nat := [98, 100, 101, 102, 110, 114, 115, 116, 118]
def g75p0 : Pt := nav [0] (bodyAt Try.f75)
def g75p1 : Pt := nav [0, 0, 0, 0] g75p0
def g75p2 : Pt := nav [0, 0] g75p1
def g75p4 : Pt := nav [2, 0, 0] g75p2
def g75p6 : Pt := nav [0, 0, 0] g75p4
def g75p7 : Pt := nav [0, 0, 0, 0] g75p6
def g75p8 : Pt := nav [0, 0, 0, 0] g75p7
def g75p9 : Pt := nav [0, 0, 0] g75p8
def g75p10 : Pt := nav [0, 0] g75p9
def g75p11 : Pt := nav [1, 0, 0, 0, 0] g75p10
def g75p12 : Pt := nav [2, 0, 0, 0, 0] g75p10
def g75p13 : Pt := nav [0, 0] g75p11
def g75p14 : Pt := nav [0, 0] g75p12
def g75p15 : Pt := nav [1, 0] g75p13
def g75p17 : Pt := nav [1, 0] g75p14
def g75p18 : Pt := nav [2, 0] g75p14
def g75p19 : Pt := nav [0, 0, 0] g75p17
def g75p20 : Pt := nav [0, 0] g75p18
def g75p21 : Pt := nav [1, 0] g75p20
def g75p22 : Pt := nav [2, 0] g75p20
def g75p23 : Pt := nav [0, 0, 0, 0] g75p21
def g75p24 : Pt := nav [0, 0] g75p22
def g75p25 : Pt := nav [0, 0] g75p23
def g75p26 : Pt := nav [1, 0] g75p24
def g75p27 : Pt := nav [2, 0] g75p24
def g75p30 : Pt := nav [0, 0, 0, 0] g75p26
def g75p31 : Pt := nav [0, 0] g75p27
def g75p32 : Pt := nav [0, 0] g75p30
def g75p33 : Pt := nav [1, 0, 0] g75p31
def g75p34 : Pt := nav [2, 0, 0] g75p31
def g75p37 : Pt := nav [0, 0] g75p33
def g75p38 : Pt := nav [0, 0, 0, 0] g75p34
def g75p40 : Pt := nav [2, 0, 0] g75p37
def g75p41 : Pt := nav [0, 0] g75p38
def g75_l13 (k : Nat)  (a0 : (List Nat)) (a1 : Int) (x1_3 : Int) (n : Nat) : Int → Option (Int × Int) :=
 Nat.rec (motive := fun _ => Int → Option (Int × Int)) (fun _ => none) (fun _ ih => fun (y13_0 : Int) => if (decide (y13_0 < 9)) then ((nthS g75c1 y13_0).bind fun x3_2 => if (decide (x3_2 = x1_3)) then ((nthL g75c0 y13_0).bind fun x2_2 => some (x2_2, (2 : Int))) else (ih (fW .i64 (y13_0 + 1)))) else (jn (fun (z14 : Bool) => if z14 then ((g77 k a0 (fW .i64 (a1 + 1)) (8 : Int) (3 : Int)).bind fun x4_3 => some (x4_3.1, fW .i64 (1 + x4_3.2))) else (jn (fun (z15 : Bool) => if z15 then ((g77 k a0 (fW .i64 (a1 + 3)) (16 : Int) (6 : Int)).bind fun x6_3 => jn (fun (z16 : Bool) => if z16 then (some (((-1) : Int), (0 : Int))) else (some (x6_3.1, fW .i64 (4 + x6_3.2)))) (fun j16 => if (decide (x6_3.2 = 0)) then (j16 true) else (if (decide ((a0.length : Int) ≤ fW .i64 (fW .i64 (a1 + 3) + x6_3.2))) then (j16 true) else ((nthS a0 (fW .i64 (fW .i64 (a1 + 3) + x6_3.2))).bind fun x7_17 => if (!decide (x7_17 = 125)) then (j16 true) else ((g70 k x6_3.1).bind fun x7_22 => j16 (!x7_22)))))) else (if (decide (x1_3 = 120)) then ((g77 k a0 (fW .i64 (a1 + 2)) (16 : Int) (2 : Int)).bind fun x8_3 => if (decide (x8_3.2 < 2)) then (some (((-1) : Int), (0 : Int))) else (some (x8_3.1, (4 : Int)))) else (if (decide (x1_3 = 94)) then (jn (fun (z17 : Bool) => if z17 then (some (((-1) : Int), (0 : Int))) else ((nthS a0 (fW .i64 (a1 + 2))).bind fun x11_3 => some (andI .i64 (fW .i64 x11_3) 31, (3 : Int)))) (fun j17 => if (decide ((a0.length : Int) ≤ fW .i64 (a1 + 2))) then (j17 true) else ((nthS a0 (fW .i64 (a1 + 2))).bind fun x9_9 => if (decide (64 ≤ x9_9)) then ((nthS a0 (fW .i64 (a1 + 2))).bind fun x9_15 => if (decide (x9_15 ≤ 95)) then (j17 false) else ((nthS a0 (fW .i64 (a1 + 2))).bind fun x9_22 => if (decide (97 ≤ x9_22)) then ((nthS a0 (fW .i64 (a1 + 2))).bind fun x9_28 => j17 (!(decide (x9_28 ≤ 122)))) else (j17 true))) else ((nthS a0 (fW .i64 (a1 + 2))).bind fun x9_22 => if (decide (97 ≤ x9_22)) then ((nthS a0 (fW .i64 (a1 + 2))).bind fun x9_28 => j17 (!(decide (x9_28 ≤ 122)))) else (j17 true))))) else ((g56 k a0 (fW .i64 (a1 + 1))).bind fun x10_3 => if (decide (x10_3.1 < 32)) then (some (((-1) : Int), (0 : Int))) else (some (x10_3.1, fW .i64 (1 + x10_3.2))))))) (fun j15 => if (decide (x1_3 = 120)) then (if (decide (fW .i64 (a1 + 2) < (a0.length : Int))) then ((nthS a0 (fW .i64 (a1 + 2))).bind fun x5_13 => j15 (decide (x5_13 = 123))) else (j15 false)) else (j15 false)))) (fun j14 => if (decide (48 ≤ x1_3)) then (j14 (decide (x1_3 ≤ 55))) else (j14 false)))) n
theorem g75_l13_s (k : Nat)  (a0 : (List Nat)) (a1 : Int) (x1_3 : Int) (n : Nat) (y13_0 : Int) : g75_l13 k a0 a1 x1_3 (n + 1) y13_0 = (if (decide (y13_0 < 9)) then ((nthS g75c1 y13_0).bind fun x3_2 => if (decide (x3_2 = x1_3)) then ((nthL g75c0 y13_0).bind fun x2_2 => some (x2_2, (2 : Int))) else ((g75_l13 k a0 a1 x1_3 n) (fW .i64 (y13_0 + 1)))) else (jn (fun (z14 : Bool) => if z14 then ((g77 k a0 (fW .i64 (a1 + 1)) (8 : Int) (3 : Int)).bind fun x4_3 => some (x4_3.1, fW .i64 (1 + x4_3.2))) else (jn (fun (z15 : Bool) => if z15 then ((g77 k a0 (fW .i64 (a1 + 3)) (16 : Int) (6 : Int)).bind fun x6_3 => jn (fun (z16 : Bool) => if z16 then (some (((-1) : Int), (0 : Int))) else (some (x6_3.1, fW .i64 (4 + x6_3.2)))) (fun j16 => if (decide (x6_3.2 = 0)) then (j16 true) else (if (decide ((a0.length : Int) ≤ fW .i64 (fW .i64 (a1 + 3) + x6_3.2))) then (j16 true) else ((nthS a0 (fW .i64 (fW .i64 (a1 + 3) + x6_3.2))).bind fun x7_17 => if (!decide (x7_17 = 125)) then (j16 true) else ((g70 k x6_3.1).bind fun x7_22 => j16 (!x7_22)))))) else (if (decide (x1_3 = 120)) then ((g77 k a0 (fW .i64 (a1 + 2)) (16 : Int) (2 : Int)).bind fun x8_3 => if (decide (x8_3.2 < 2)) then (some (((-1) : Int), (0 : Int))) else (some (x8_3.1, (4 : Int)))) else (if (decide (x1_3 = 94)) then (jn (fun (z17 : Bool) => if z17 then (some (((-1) : Int), (0 : Int))) else ((nthS a0 (fW .i64 (a1 + 2))).bind fun x11_3 => some (andI .i64 (fW .i64 x11_3) 31, (3 : Int)))) (fun j17 => if (decide ((a0.length : Int) ≤ fW .i64 (a1 + 2))) then (j17 true) else ((nthS a0 (fW .i64 (a1 + 2))).bind fun x9_9 => if (decide (64 ≤ x9_9)) then ((nthS a0 (fW .i64 (a1 + 2))).bind fun x9_15 => if (decide (x9_15 ≤ 95)) then (j17 false) else ((nthS a0 (fW .i64 (a1 + 2))).bind fun x9_22 => if (decide (97 ≤ x9_22)) then ((nthS a0 (fW .i64 (a1 + 2))).bind fun x9_28 => j17 (!(decide (x9_28 ≤ 122)))) else (j17 true))) else ((nthS a0 (fW .i64 (a1 + 2))).bind fun x9_22 => if (decide (97 ≤ x9_22)) then ((nthS a0 (fW .i64 (a1 + 2))).bind fun x9_28 => j17 (!(decide (x9_28 ≤ 122)))) else (j17 true))))) else ((g56 k a0 (fW .i64 (a1 + 1))).bind fun x10_3 => if (decide (x10_3.1 < 32)) then (some (((-1) : Int), (0 : Int))) else (some (x10_3.1, fW .i64 (1 + x10_3.2))))))) (fun j15 => if (decide (x1_3 = 120)) then (if (decide (fW .i64 (a1 + 2) < (a0.length : Int))) then ((nthS a0 (fW .i64 (a1 + 2))).bind fun x5_13 => j15 (decide (x5_13 = 123))) else (j15 false)) else (j15 false)))) (fun j14 => if (decide (48 ≤ x1_3)) then (j14 (decide (x1_3 ≤ 55))) else (j14 false)))) := rfl
theorem g75_l13_ok (k : Nat)  (a0 : (List Nat)) (a1 : Int) (x1_3 : Int)  : ∀ (n : Nat) (y13_0 : Int), Ok X75 g75p8 [(0, .str a0), (1, .int .i64 a1), (6, .int .u8 x1_3), (7, .str g75c1), (8, .vec (g75c0).length 1 ((g75c0).flatMap e3)), (9, .int .i64 y13_0)] (mkH []) (g75_l13 k a0 a1 x1_3 n y13_0)
 | 0, _ => ok_none
 | n + 1, y13_0 => by
  have ih := g75_l13_ok k a0 a1 x1_3 n
  rw [g75_l13_s]
  refine ok_ent (p' := nav [0] g75p8) (by kernel_rfl) ?_
  let E5 : Env := [(41, .bool (decide (y13_0 < 9))), (40, .int .i64 9), (39, .str g75c1), (38, .int .i64 y13_0), (0, .str a0), (1, .int .i64 a1), (6, .int .u8 x1_3), (7, .str g75c1), (8, .vec (g75c0).length 1 ((g75c0).flatMap e3)), (9, .int .i64 y13_0)]
  refine oR 8 (p' := g75p10) (eE := E5) (H' := (mkH [])) (by kernel_rfl) ?_
  refine oS 41 (b := decide (y13_0 < 9)) (by kernel_rfl) (fun hb => ?_) (fun hb => ?_)
  ·refine oR 8 (p' := (atN 2 (ctl1 g75p11))) (eE := ((45, .int .i64 y13_0) :: (44, .str g75c1) :: (41, .bool true) :: E5)) (H' := (mkH [])) (by kernel_rfl) ?_
   refine oH (fun (x3_2 : Int) => (.int .u8 x3_2, (mkH []))) (atN 3 (ctl1 g75p11)) (fun x3_2 => ((46, .int .u8 x3_2) :: (45, .int .i64 y13_0) :: (44, .str g75c1) :: (41, .bool true) :: E5)) (idxH (by kernel_rfl)) (fun _ => by kernel_rfl) (fun x3_2 hx3_2 => ?_)
   let E6 : Env := ((48, .bool (decide (x3_2 = x1_3))) :: (47, .int .u8 x1_3) :: (46, .int .u8 x3_2) :: (45, .int .i64 y13_0) :: (44, .str g75c1) :: (41, .bool true) :: E5)
   refine oR 3 (p' := g75p13) (eE := E6) (H' := (mkH [])) (by kernel_rfl) ?_
   refine oK [0, 1, 6, 7, 8, 9, 48] (eE := [(0, .str a0), (1, .int .i64 a1), (6, .int .u8 x1_3), (7, .str g75c1), (8, .vec (g75c0).length 1 ((g75c0).flatMap e3)), (9, .int .i64 y13_0), (48, .bool (decide (x3_2 = x1_3)))]) (by kernel_rfl) ?_
   refine oS 48 (b := decide (x3_2 = x1_3)) (by kernel_rfl) (fun hb => ?_) (fun hb => ?_)
   ·let E7 : Env := [(50, .int .i64 y13_0), (49, .vec (g75c0).length 1 ((g75c0).flatMap e3)), (48, .bool true), (0, .str a0), (1, .int .i64 a1), (6, .int .u8 x1_3), (7, .str g75c1), (8, .vec (g75c0).length 1 ((g75c0).flatMap e3)), (9, .int .i64 y13_0), (48, .bool (decide (x3_2 = x1_3)))]
    refine oR 5 (p' := (atN 2 (ctl1 g75p15))) (eE := E7) (H' := (mkH [])) (by kernel_rfl) ?_
    refine oH (fun (x2_2 : Int) => (.vptr [.int .i64 x2_2], (mkH []))) (atN 3 (ctl1 g75p15)) (fun x2_2 => ((51, .vptr [.int .i64 x2_2]) :: E7)) (vidxH (sz := 1) e3_len (by kernel_rfl)) (fun _ => by kernel_rfl) (fun x2_2 hx2_2 => ?_)
    refine oR 5 (p' := .fin) (eE := ((5, .int .i64 2) :: (4, .int .i64 x2_2) :: (52, .int .i64 x2_2) :: (51, .vptr [.int .i64 x2_2]) :: E7)) (H' := (mkH [])) (by kernel_rfl) ?_
    exact oT (r := (x2_2, (2 : Int))) (xs := [.int .i64 x2_2, .int .i64 2]) (v := .tuple [.int .i64 x2_2, .int .i64 2]) (by kernel_rfl) (by kernel_rfl) (by kernel_rfl) (.pures (by kernel_rfl)) (by kernel_rfl)
   ·let E8 : Env := [(9, .int .i64 (fW .i64 (y13_0 + 1))), (43, .int .i64 (fW .i64 (y13_0 + 1))), (42, .int .i64 y13_0), (48, .bool false), (0, .str a0), (1, .int .i64 a1), (6, .int .u8 x1_3), (7, .str g75c1), (8, .vec (g75c0).length 1 ((g75c0).flatMap e3)), (9, .int .i64 y13_0), (48, .bool (decide (x3_2 = x1_3)))]
    refine oR 7 (p' := g75p8) (eE := E8) (H' := (mkH [])) (by kernel_rfl) ?_
    refine oK [0, 1, 6, 7, 8, 9] (eE := [(0, .str a0), (1, .int .i64 a1), (6, .int .u8 x1_3), (7, .str g75c1), (8, .vec (g75c0).length 1 ((g75c0).flatMap e3)), (9, .int .i64 (fW .i64 (y13_0 + 1)))]) (by kernel_rfl) ?_
    exact ih (fW .i64 (y13_0 + 1))
  ·refine oR 9 (p' := (atN 3 (ctl1 g75p12))) (eE := ((56, .bool (decide (48 ≤ x1_3))) :: (55, .bool (decide (48 ≤ x1_3))) :: (54, .int .u8 x1_3) :: (41, .bool false) :: E5)) (H' := (mkH [])) (by kernel_rfl) ?_
   refine oJ (f := fun (z14 : Bool) => if z14 then ((g77 k a0 (fW .i64 (a1 + 1)) (8 : Int) (3 : Int)).bind fun x4_3 => some (x4_3.1, fW .i64 (1 + x4_3.2))) else (jn (fun (z15 : Bool) => if z15 then ((g77 k a0 (fW .i64 (a1 + 3)) (16 : Int) (6 : Int)).bind fun x6_3 => jn (fun (z16 : Bool) => if z16 then (some (((-1) : Int), (0 : Int))) else (some (x6_3.1, fW .i64 (4 + x6_3.2)))) (fun j16 => if (decide (x6_3.2 = 0)) then (j16 true) else (if (decide ((a0.length : Int) ≤ fW .i64 (fW .i64 (a1 + 3) + x6_3.2))) then (j16 true) else ((nthS a0 (fW .i64 (fW .i64 (a1 + 3) + x6_3.2))).bind fun x7_17 => if (!decide (x7_17 = 125)) then (j16 true) else ((g70 k x6_3.1).bind fun x7_22 => j16 (!x7_22)))))) else (if (decide (x1_3 = 120)) then ((g77 k a0 (fW .i64 (a1 + 2)) (16 : Int) (2 : Int)).bind fun x8_3 => if (decide (x8_3.2 < 2)) then (some (((-1) : Int), (0 : Int))) else (some (x8_3.1, (4 : Int)))) else (if (decide (x1_3 = 94)) then (jn (fun (z17 : Bool) => if z17 then (some (((-1) : Int), (0 : Int))) else ((nthS a0 (fW .i64 (a1 + 2))).bind fun x11_3 => some (andI .i64 (fW .i64 x11_3) 31, (3 : Int)))) (fun j17 => if (decide ((a0.length : Int) ≤ fW .i64 (a1 + 2))) then (j17 true) else ((nthS a0 (fW .i64 (a1 + 2))).bind fun x9_9 => if (decide (64 ≤ x9_9)) then ((nthS a0 (fW .i64 (a1 + 2))).bind fun x9_15 => if (decide (x9_15 ≤ 95)) then (j17 false) else ((nthS a0 (fW .i64 (a1 + 2))).bind fun x9_22 => if (decide (97 ≤ x9_22)) then ((nthS a0 (fW .i64 (a1 + 2))).bind fun x9_28 => j17 (!(decide (x9_28 ≤ 122)))) else (j17 true))) else ((nthS a0 (fW .i64 (a1 + 2))).bind fun x9_22 => if (decide (97 ≤ x9_22)) then ((nthS a0 (fW .i64 (a1 + 2))).bind fun x9_28 => j17 (!(decide (x9_28 ≤ 122)))) else (j17 true))))) else ((g56 k a0 (fW .i64 (a1 + 1))).bind fun x10_3 => if (decide (x10_3.1 < 32)) then (some (((-1) : Int), (0 : Int))) else (some (x10_3.1, fW .i64 (1 + x10_3.2))))))) (fun j15 => if (decide (x1_3 = 120)) then (if (decide (fW .i64 (a1 + 2) < (a0.length : Int))) then ((nthS a0 (fW .i64 (a1 + 2))).bind fun x5_13 => j15 (decide (x5_13 = 123))) else (j15 false)) else (j15 false)))) g75p14 (fun (z14 : Bool) => [(0, .str a0), (1, .int .i64 a1), (6, .int .u8 x1_3), (53, .bool z14)]) (fun (z14 : Bool) => (mkH [])) (fun z14 => ?_) (fun j14 hj14 => ?_)
   ·refine oS 53 (b := z14) (by kernel_rfl) (fun hb => ?_) (fun hb => ?_)
    ·let E9 : Env := [(63, .int .i64 (fW .i64 (a1 + 1))), (62, .int .i64 a1), (61, .str a0), (53, .bool true), (0, .str a0), (1, .int .i64 a1), (6, .int .u8 x1_3), (53, .bool z14)]
     refine oR 6 (p' := (atN 3 (ctl1 g75p17))) (eE := E9) (H' := (mkH [])) (by kernel_rfl) ?_
     refine oC (fun (x4_3 : (Int × Int)) => .tuple [.int .i64 x4_3.1, .int .i64 x4_3.2]) (atN 4 (ctl1 g75p17)) (fun x4_3 => ((64, .tuple [.int .i64 x4_3.1, .int .i64 x4_3.2]) :: E9)) (fi := 77) (args := [.str a0, .int .i64 (fW .i64 (a1 + 1)), .int .i64 8, .int .i64 3]) (by kernel_rfl) (by kernel_rfl) (fun _ => by kernel_rfl) (fun r h => g77_ok k a0 (fW .i64 (a1 + 1)) (8 : Int) (3 : Int) r h) (fun _ => by kernel_rfl) (fun x4_3 hx4_3 => ?_)
     let E10 : Env := ((11, .int .i64 x4_3.2) :: (10, .int .i64 x4_3.1) :: (66, .int .i64 x4_3.2) :: (65, .int .i64 x4_3.1) :: (60, .tuple [.int .i64 x4_3.1, .int .i64 x4_3.2]) :: (64, .tuple [.int .i64 x4_3.1, .int .i64 x4_3.2]) :: E9)
     refine oR 7 (p' := g75p19) (eE := E10) (H' := (mkH [])) (by kernel_rfl) ?_
     refine oK [10, 11] (eE := [(10, .int .i64 x4_3.1), (11, .int .i64 x4_3.2)]) (by kernel_rfl) ?_
     let E11 : Env := [(5, .int .i64 (fW .i64 (1 + x4_3.2))), (4, .int .i64 x4_3.1), (69, .int .i64 (fW .i64 (1 + x4_3.2))), (68, .int .i64 x4_3.2), (67, .int .i64 x4_3.1), (10, .int .i64 x4_3.1), (11, .int .i64 x4_3.2)]
     refine oR 8 (p' := .fin) (eE := E11) (H' := (mkH [])) (by kernel_rfl) ?_
     exact oT (r := (x4_3.1, fW .i64 (1 + x4_3.2))) (xs := [.int .i64 x4_3.1, .int .i64 (fW .i64 (1 + x4_3.2))]) (v := .tuple [.int .i64 x4_3.1, .int .i64 (fW .i64 (1 + x4_3.2))]) (by kernel_rfl) (by kernel_rfl) (by kernel_rfl) (.pures (by kernel_rfl)) (by kernel_rfl)
    ·let E12 : Env := [(73, .bool (decide (x1_3 = 120))), (72, .bool (decide (x1_3 = 120))), (71, .int .u8 x1_3), (53, .bool false), (0, .str a0), (1, .int .i64 a1), (6, .int .u8 x1_3), (53, .bool z14)]
     refine oR 6 (p' := (atN 3 (ctl1 g75p18))) (eE := E12) (H' := (mkH [])) (by kernel_rfl) ?_
     refine oJ (f := fun (z15 : Bool) => if z15 then ((g77 k a0 (fW .i64 (a1 + 3)) (16 : Int) (6 : Int)).bind fun x6_3 => jn (fun (z16 : Bool) => if z16 then (some (((-1) : Int), (0 : Int))) else (some (x6_3.1, fW .i64 (4 + x6_3.2)))) (fun j16 => if (decide (x6_3.2 = 0)) then (j16 true) else (if (decide ((a0.length : Int) ≤ fW .i64 (fW .i64 (a1 + 3) + x6_3.2))) then (j16 true) else ((nthS a0 (fW .i64 (fW .i64 (a1 + 3) + x6_3.2))).bind fun x7_17 => if (!decide (x7_17 = 125)) then (j16 true) else ((g70 k x6_3.1).bind fun x7_22 => j16 (!x7_22)))))) else (if (decide (x1_3 = 120)) then ((g77 k a0 (fW .i64 (a1 + 2)) (16 : Int) (2 : Int)).bind fun x8_3 => if (decide (x8_3.2 < 2)) then (some (((-1) : Int), (0 : Int))) else (some (x8_3.1, (4 : Int)))) else (if (decide (x1_3 = 94)) then (jn (fun (z17 : Bool) => if z17 then (some (((-1) : Int), (0 : Int))) else ((nthS a0 (fW .i64 (a1 + 2))).bind fun x11_3 => some (andI .i64 (fW .i64 x11_3) 31, (3 : Int)))) (fun j17 => if (decide ((a0.length : Int) ≤ fW .i64 (a1 + 2))) then (j17 true) else ((nthS a0 (fW .i64 (a1 + 2))).bind fun x9_9 => if (decide (64 ≤ x9_9)) then ((nthS a0 (fW .i64 (a1 + 2))).bind fun x9_15 => if (decide (x9_15 ≤ 95)) then (j17 false) else ((nthS a0 (fW .i64 (a1 + 2))).bind fun x9_22 => if (decide (97 ≤ x9_22)) then ((nthS a0 (fW .i64 (a1 + 2))).bind fun x9_28 => j17 (!(decide (x9_28 ≤ 122)))) else (j17 true))) else ((nthS a0 (fW .i64 (a1 + 2))).bind fun x9_22 => if (decide (97 ≤ x9_22)) then ((nthS a0 (fW .i64 (a1 + 2))).bind fun x9_28 => j17 (!(decide (x9_28 ≤ 122)))) else (j17 true))))) else ((g56 k a0 (fW .i64 (a1 + 1))).bind fun x10_3 => if (decide (x10_3.1 < 32)) then (some (((-1) : Int), (0 : Int))) else (some (x10_3.1, fW .i64 (1 + x10_3.2))))))) g75p20 (fun (z15 : Bool) => [(0, .str a0), (1, .int .i64 a1), (6, .int .u8 x1_3), (70, .bool z15)]) (fun (z15 : Bool) => (mkH [])) (fun z15 => ?_) (fun j15 hj15 => ?_)
     ·refine oS 70 (b := z15) (by kernel_rfl) (fun hb => ?_) (fun hb => ?_)
      ·let E13 : Env := [(90, .int .i64 (fW .i64 (a1 + 3))), (89, .int .i64 a1), (88, .str a0), (70, .bool true), (0, .str a0), (1, .int .i64 a1), (6, .int .u8 x1_3), (70, .bool z15)]
       refine oR 6 (p' := (atN 3 (ctl1 g75p21))) (eE := E13) (H' := (mkH [])) (by kernel_rfl) ?_
       refine oC (fun (x6_3 : (Int × Int)) => .tuple [.int .i64 x6_3.1, .int .i64 x6_3.2]) (atN 4 (ctl1 g75p21)) (fun x6_3 => ((91, .tuple [.int .i64 x6_3.1, .int .i64 x6_3.2]) :: E13)) (fi := 77) (args := [.str a0, .int .i64 (fW .i64 (a1 + 3)), .int .i64 16, .int .i64 6]) (by kernel_rfl) (by kernel_rfl) (fun _ => by kernel_rfl) (fun r h => g77_ok k a0 (fW .i64 (a1 + 3)) (16 : Int) (6 : Int) r h) (fun _ => by kernel_rfl) (fun x6_3 hx6_3 => ?_)
       let E14 : Env := ((13, .int .i64 x6_3.2) :: (12, .int .i64 x6_3.1) :: (93, .int .i64 x6_3.2) :: (92, .int .i64 x6_3.1) :: (87, .tuple [.int .i64 x6_3.1, .int .i64 x6_3.2]) :: (91, .tuple [.int .i64 x6_3.1, .int .i64 x6_3.2]) :: E13)
       refine oR 8 (p' := g75p23) (eE := E14) (H' := (mkH [])) (by kernel_rfl) ?_
       refine oK [0, 1, 12, 13] (eE := [(0, .str a0), (1, .int .i64 a1), (12, .int .i64 x6_3.1), (13, .int .i64 x6_3.2)]) (by kernel_rfl) ?_
       let E15 : Env := [(96, .bool (decide (x6_3.2 = 0))), (95, .bool (decide (x6_3.2 = 0))), (94, .int .i64 x6_3.2), (0, .str a0), (1, .int .i64 a1), (12, .int .i64 x6_3.1), (13, .int .i64 x6_3.2)]
       refine oR 4 (p' := (atN 3 (ctl1 g75p23))) (eE := E15) (H' := (mkH [])) (by kernel_rfl) ?_
       refine oJ (f := fun (z16 : Bool) => if z16 then (some (((-1) : Int), (0 : Int))) else (some (x6_3.1, fW .i64 (4 + x6_3.2)))) g75p25 (fun (z16 : Bool) => [(12, .int .i64 x6_3.1), (13, .int .i64 x6_3.2), (118, .bool z16)]) (fun (z16 : Bool) => (mkH [])) (fun z16 => ?_) (fun j16 hj16 => ?_)
       ·refine oS 118 (b := z16) (by kernel_rfl) (fun hb => ?_) (fun hb => ?_)
        ·let E16 : Env := [(5, .int .i64 0), (4, .int .i64 (-1)), (118, .bool true), (12, .int .i64 x6_3.1), (13, .int .i64 x6_3.2), (118, .bool z16)]
         refine oR 7 (p' := .fin) (eE := E16) (H' := (mkH [])) (by kernel_rfl) ?_
         exact oT (r := (((-1) : Int), (0 : Int))) (xs := [.int .i64 (-1), .int .i64 0]) (v := .tuple [.int .i64 (-1), .int .i64 0]) (by kernel_rfl) (by kernel_rfl) (by kernel_rfl) (.pures (by kernel_rfl)) (by kernel_rfl)
        ·let E17 : Env := [(5, .int .i64 (fW .i64 (4 + x6_3.2))), (4, .int .i64 x6_3.1), (121, .int .i64 (fW .i64 (4 + x6_3.2))), (120, .int .i64 x6_3.2), (119, .int .i64 x6_3.1), (118, .bool false), (12, .int .i64 x6_3.1), (13, .int .i64 x6_3.2), (118, .bool z16)]
         refine oR 11 (p' := .fin) (eE := E17) (H' := (mkH [])) (by kernel_rfl) ?_
         exact oT (r := (x6_3.1, fW .i64 (4 + x6_3.2))) (xs := [.int .i64 x6_3.1, .int .i64 (fW .i64 (4 + x6_3.2))]) (v := .tuple [.int .i64 x6_3.1, .int .i64 (fW .i64 (4 + x6_3.2))]) (by kernel_rfl) (by kernel_rfl) (by kernel_rfl) (.pures (by kernel_rfl)) (by kernel_rfl)
       ·refine oS 96 (b := decide (x6_3.2 = 0)) (by kernel_rfl) (fun hb => ?_) (fun hb => ?_)
        ·let E18 : Env := ((118, .bool true) :: (117, .tuple []) :: (116, .tuple []) :: (115, .tuple []) :: (114, .bool true) :: (113, .bool true) :: (112, .tuple []) :: (111, .tuple []) :: (110, .tuple []) :: (109, .tuple []) :: (108, .tuple []) :: (107, .tuple []) :: (106, .tuple []) :: (105, .bool true) :: (104, .bool true) :: (103, .tuple []) :: (102, .tuple []) :: (101, .tuple []) :: (100, .tuple []) :: (99, .tuple []) :: (98, .tuple []) :: (97, .tuple []) :: (96, .bool true) :: E15)
         refine oR 23 (p' := g75p25) (eE := E18) (H' := (mkH [])) (by kernel_rfl) ?_
         refine oK [12, 13, 118] (eE := [(12, .int .i64 x6_3.1), (13, .int .i64 x6_3.2), (118, .bool true)]) (by kernel_rfl) ?_
         exact hj16 true
        ·let E19 : Env := ((105, .bool (decide ((a0.length : Int) ≤ fW .i64 (fW .i64 (a1 + 3) + x6_3.2)))) :: (104, .bool (decide ((a0.length : Int) ≤ fW .i64 (fW .i64 (a1 + 3) + x6_3.2)))) :: (103, .bool (decide ((a0.length : Int) ≤ fW .i64 (fW .i64 (a1 + 3) + x6_3.2)))) :: (102, .int .i64 (a0.length : Int)) :: (101, .str a0) :: (100, .int .i64 (fW .i64 (fW .i64 (a1 + 3) + x6_3.2))) :: (99, .int .i64 x6_3.2) :: (98, .int .i64 (fW .i64 (a1 + 3))) :: (97, .int .i64 a1) :: (96, .bool false) :: E15)
         refine oR 9 (p' := (atN 12 (ctl1 g75p23))) (eE := E19) (H' := (mkH [])) (by kernel_rfl) ?_
         refine oS 105 (b := decide ((a0.length : Int) ≤ fW .i64 (fW .i64 (a1 + 3) + x6_3.2))) (by kernel_rfl) (fun hb => ?_) (fun hb => ?_)
         ·let E20 : Env := ((118, .bool true) :: (117, .tuple []) :: (116, .tuple []) :: (115, .tuple []) :: (114, .bool true) :: (113, .bool true) :: (112, .tuple []) :: (111, .tuple []) :: (110, .tuple []) :: (109, .tuple []) :: (108, .tuple []) :: (107, .tuple []) :: (106, .tuple []) :: (105, .bool true) :: E19)
          refine oR 14 (p' := g75p25) (eE := E20) (H' := (mkH [])) (by kernel_rfl) ?_
          refine oK [12, 13, 118] (eE := [(12, .int .i64 x6_3.1), (13, .int .i64 x6_3.2), (118, .bool true)]) (by kernel_rfl) ?_
          exact hj16 true
         ·let E21 : Env := ((110, .int .i64 (fW .i64 (fW .i64 (a1 + 3) + x6_3.2))) :: (109, .int .i64 x6_3.2) :: (108, .int .i64 (fW .i64 (a1 + 3))) :: (107, .int .i64 a1) :: (106, .str a0) :: (105, .bool false) :: E19)
          refine oR 5 (p' := (atN 17 (ctl1 g75p23))) (eE := E21) (H' := (mkH [])) (by kernel_rfl) ?_
          refine oH (fun (x7_17 : Int) => (.int .u8 x7_17, (mkH []))) (atN 18 (ctl1 g75p23)) (fun x7_17 => ((111, .int .u8 x7_17) :: E21)) (idxH (by kernel_rfl)) (fun _ => by kernel_rfl) (fun x7_17 hx7_17 => ?_)
          refine oR 3 (p' := (atN 21 (ctl1 g75p23))) (eE := ((114, .bool (!decide (x7_17 = 125))) :: (113, .bool (!decide (x7_17 = 125))) :: (112, .bool (!decide (x7_17 = 125))) :: (111, .int .u8 x7_17) :: E21)) (H' := (mkH [])) (by kernel_rfl) ?_
          refine oS 114 (b := !decide (x7_17 = 125)) (by kernel_rfl) (fun hb => ?_) (fun hb => ?_)
          ·let E22 : Env := ((118, .bool true) :: (117, .tuple []) :: (116, .tuple []) :: (115, .tuple []) :: (114, .bool true) :: (114, .bool (!decide (x7_17 = 125))) :: (113, .bool (!decide (x7_17 = 125))) :: (112, .bool (!decide (x7_17 = 125))) :: (111, .int .u8 x7_17) :: E21)
           refine oR 5 (p' := g75p25) (eE := E22) (H' := (mkH [])) (by kernel_rfl) ?_
           refine oK [12, 13, 118] (eE := [(12, .int .i64 x6_3.1), (13, .int .i64 x6_3.2), (118, .bool true)]) (by kernel_rfl) ?_
           exact hj16 true
          ·let E23 : Env := ((115, .int .i64 x6_3.1) :: (114, .bool false) :: (114, .bool (!decide (x7_17 = 125))) :: (113, .bool (!decide (x7_17 = 125))) :: (112, .bool (!decide (x7_17 = 125))) :: (111, .int .u8 x7_17) :: E21)
           refine oR 1 (p' := (atN 22 (ctl1 g75p23))) (eE := E23) (H' := (mkH [])) (by kernel_rfl) ?_
           refine oC (fun (x7_22 : Bool) => .bool x7_22) (atN 23 (ctl1 g75p23)) (fun x7_22 => ((116, .bool x7_22) :: E23)) (fi := 70) (args := [.int .i64 x6_3.1]) (by kernel_rfl) (by kernel_rfl) (fun _ => by kernel_rfl) (fun r h => g70_ok k x6_3.1 r h) (fun _ => by kernel_rfl) (fun x7_22 hx7_22 => ?_)
           refine oR 3 (p' := g75p25) (eE := ((118, .bool (!x7_22)) :: (117, .bool (!x7_22)) :: (116, .bool x7_22) :: E23)) (H' := (mkH [])) (by kernel_rfl) ?_
           refine oK [12, 13, 118] (eE := [(12, .int .i64 x6_3.1), (13, .int .i64 x6_3.2), (118, .bool (!x7_22))]) (by kernel_rfl) ?_
           exact hj16 (!x7_22)
      ·let E24 : Env := [(122, .bool (decide (x1_3 = 120))), (124, .bool (decide (x1_3 = 120))), (123, .int .u8 x1_3), (70, .bool false), (0, .str a0), (1, .int .i64 a1), (6, .int .u8 x1_3), (70, .bool z15)]
       refine oR 7 (p' := g75p24) (eE := E24) (H' := (mkH [])) (by kernel_rfl) ?_
       refine oS 122 (b := decide (x1_3 = 120)) (by kernel_rfl) (fun hb => ?_) (fun hb => ?_)
       ·refine oR 6 (p' := (atN 3 (ctl1 g75p26))) (eE := ((128, .int .i64 (fW .i64 (a1 + 2))) :: (127, .int .i64 a1) :: (126, .str a0) :: (122, .bool true) :: E24)) (H' := (mkH [])) (by kernel_rfl) ?_
        refine oC (fun (x8_3 : (Int × Int)) => .tuple [.int .i64 x8_3.1, .int .i64 x8_3.2]) (atN 4 (ctl1 g75p26)) (fun x8_3 => ((129, .tuple [.int .i64 x8_3.1, .int .i64 x8_3.2]) :: (128, .int .i64 (fW .i64 (a1 + 2))) :: (127, .int .i64 a1) :: (126, .str a0) :: (122, .bool true) :: E24)) (fi := 77) (args := [.str a0, .int .i64 (fW .i64 (a1 + 2)), .int .i64 16, .int .i64 2]) (by kernel_rfl) (by kernel_rfl) (fun _ => by kernel_rfl) (fun r h => g77_ok k a0 (fW .i64 (a1 + 2)) (16 : Int) (2 : Int) r h) (fun _ => by kernel_rfl) (fun x8_3 hx8_3 => ?_)
        let E25 : Env := ((15, .int .i64 x8_3.2) :: (14, .int .i64 x8_3.1) :: (131, .int .i64 x8_3.2) :: (130, .int .i64 x8_3.1) :: (125, .tuple [.int .i64 x8_3.1, .int .i64 x8_3.2]) :: (129, .tuple [.int .i64 x8_3.1, .int .i64 x8_3.2]) :: (128, .int .i64 (fW .i64 (a1 + 2))) :: (127, .int .i64 a1) :: (126, .str a0) :: (122, .bool true) :: E24)
        refine oR 8 (p' := g75p30) (eE := E25) (H' := (mkH [])) (by kernel_rfl) ?_
        refine oK [14, 15] (eE := [(14, .int .i64 x8_3.1), (15, .int .i64 x8_3.2)]) (by kernel_rfl) ?_
        refine oR 4 (p' := g75p32) (eE := [(133, .bool (decide (x8_3.2 < 2))), (132, .int .i64 x8_3.2), (14, .int .i64 x8_3.1), (15, .int .i64 x8_3.2)]) (H' := (mkH [])) (by kernel_rfl) ?_
        refine oS 133 (b := decide (x8_3.2 < 2)) (by kernel_rfl) (fun hb => ?_) (fun hb => ?_)
        ·let E26 : Env := [(5, .int .i64 0), (4, .int .i64 (-1)), (133, .bool true), (133, .bool (decide (x8_3.2 < 2))), (132, .int .i64 x8_3.2), (14, .int .i64 x8_3.1), (15, .int .i64 x8_3.2)]
         refine oR 7 (p' := .fin) (eE := E26) (H' := (mkH [])) (by kernel_rfl) ?_
         exact oT (r := (((-1) : Int), (0 : Int))) (xs := [.int .i64 (-1), .int .i64 0]) (v := .tuple [.int .i64 (-1), .int .i64 0]) (by kernel_rfl) (by kernel_rfl) (by kernel_rfl) (.pures (by kernel_rfl)) (by kernel_rfl)
        ·let E27 : Env := [(5, .int .i64 4), (4, .int .i64 x8_3.1), (134, .int .i64 x8_3.1), (133, .bool false), (133, .bool (decide (x8_3.2 < 2))), (132, .int .i64 x8_3.2), (14, .int .i64 x8_3.1), (15, .int .i64 x8_3.2)]
         refine oR 9 (p' := .fin) (eE := E27) (H' := (mkH [])) (by kernel_rfl) ?_
         exact oT (r := (x8_3.1, (4 : Int))) (xs := [.int .i64 x8_3.1, .int .i64 4]) (v := .tuple [.int .i64 x8_3.1, .int .i64 4]) (by kernel_rfl) (by kernel_rfl) (by kernel_rfl) (.pures (by kernel_rfl)) (by kernel_rfl)
       ·refine oR 7 (p' := g75p31) (eE := ((135, .bool (decide (x1_3 = 94))) :: (137, .bool (decide (x1_3 = 94))) :: (136, .int .u8 x1_3) :: (122, .bool false) :: E24)) (H' := (mkH [])) (by kernel_rfl) ?_
        refine oK [0, 1, 135] (eE := [(0, .str a0), (1, .int .i64 a1), (135, .bool (decide (x1_3 = 94)))]) (by kernel_rfl) ?_
        refine oS 135 (b := decide (x1_3 = 94)) (by kernel_rfl) (fun hb => ?_) (fun hb => ?_)
        ·let E28 : Env := [(143, .bool (decide ((a0.length : Int) ≤ fW .i64 (a1 + 2)))), (142, .bool (decide ((a0.length : Int) ≤ fW .i64 (a1 + 2)))), (141, .int .i64 (a0.length : Int)), (140, .str a0), (139, .int .i64 (fW .i64 (a1 + 2))), (138, .int .i64 a1), (135, .bool true), (0, .str a0), (1, .int .i64 a1), (135, .bool (decide (x1_3 = 94)))]
         refine oR 10 (p' := (atN 6 (ctl1 g75p33))) (eE := E28) (H' := (mkH [])) (by kernel_rfl) ?_
         refine oJ (f := fun (z17 : Bool) => if z17 then (some (((-1) : Int), (0 : Int))) else ((nthS a0 (fW .i64 (a1 + 2))).bind fun x11_3 => some (andI .i64 (fW .i64 x11_3) 31, (3 : Int)))) g75p37 (fun (z17 : Bool) => [(0, .str a0), (1, .int .i64 a1), (171, .bool z17)]) (fun (z17 : Bool) => (mkH [])) (fun z17 => ?_) (fun j17 hj17 => ?_)
         ·refine oS 171 (b := z17) (by kernel_rfl) (fun hb => ?_) (fun hb => ?_)
          ·let E29 : Env := [(5, .int .i64 0), (4, .int .i64 (-1)), (171, .bool true), (0, .str a0), (1, .int .i64 a1), (171, .bool z17)]
           refine oR 7 (p' := .fin) (eE := E29) (H' := (mkH [])) (by kernel_rfl) ?_
           exact oT (r := (((-1) : Int), (0 : Int))) (xs := [.int .i64 (-1), .int .i64 0]) (v := .tuple [.int .i64 (-1), .int .i64 0]) (by kernel_rfl) (by kernel_rfl) (by kernel_rfl) (.pures (by kernel_rfl)) (by kernel_rfl)
          ·let E30 : Env := [(174, .int .i64 (fW .i64 (a1 + 2))), (173, .int .i64 a1), (172, .str a0), (171, .bool false), (0, .str a0), (1, .int .i64 a1), (171, .bool z17)]
           refine oR 7 (p' := (atN 3 (ctl1 g75p40))) (eE := E30) (H' := (mkH [])) (by kernel_rfl) ?_
           refine oH (fun (x11_3 : Int) => (.int .u8 x11_3, (mkH []))) (atN 4 (ctl1 g75p40)) (fun x11_3 => ((175, .int .u8 x11_3) :: E30)) (idxH (by kernel_rfl)) (fun _ => by kernel_rfl) (fun x11_3 hx11_3 => ?_)
           let E31 : Env := ((5, .int .i64 3) :: (4, .int .i64 (andI .i64 (fW .i64 x11_3) 31)) :: (177, .int .i64 (andI .i64 (fW .i64 x11_3) 31)) :: (176, .int .i64 (fW .i64 x11_3)) :: (175, .int .u8 x11_3) :: E30)
           refine oR 6 (p' := .fin) (eE := E31) (H' := (mkH [])) (by kernel_rfl) ?_
           exact oT (r := (andI .i64 (fW .i64 x11_3) 31, (3 : Int))) (xs := [.int .i64 (andI .i64 (fW .i64 x11_3) 31), .int .i64 3]) (v := .tuple [.int .i64 (andI .i64 (fW .i64 x11_3) 31), .int .i64 3]) (by kernel_rfl) (by kernel_rfl) (by kernel_rfl) (.pures (by kernel_rfl)) (by kernel_rfl)
         ·refine oS 143 (b := decide ((a0.length : Int) ≤ fW .i64 (a1 + 2))) (by kernel_rfl) (fun hb => ?_) (fun hb => ?_)
          ·let E32 : Env := ((171, .bool true) :: (170, .tuple []) :: (169, .tuple []) :: (168, .tuple []) :: (167, .tuple []) :: (166, .tuple []) :: (165, .tuple []) :: (164, .tuple []) :: (163, .tuple []) :: (162, .tuple []) :: (161, .tuple []) :: (160, .tuple []) :: (159, .tuple []) :: (158, .tuple []) :: (157, .tuple []) :: (156, .tuple []) :: (155, .tuple []) :: (154, .tuple []) :: (153, .tuple []) :: (152, .tuple []) :: (151, .tuple []) :: (150, .tuple []) :: (149, .tuple []) :: (148, .tuple []) :: (147, .tuple []) :: (146, .tuple []) :: (145, .tuple []) :: (144, .tuple []) :: (143, .bool true) :: E28)
           refine oR 29 (p' := g75p37) (eE := E32) (H' := (mkH [])) (by kernel_rfl) ?_
           refine oK [0, 1, 171] (eE := [(0, .str a0), (1, .int .i64 a1), (171, .bool true)]) (by kernel_rfl) ?_
           exact hj17 true
          ·refine oR 3 (p' := (atN 9 (ctl1 g75p33))) (eE := ((146, .int .i64 (fW .i64 (a1 + 2))) :: (145, .int .i64 a1) :: (144, .str a0) :: (143, .bool false) :: E28)) (H' := (mkH [])) (by kernel_rfl) ?_
           refine oH (fun (x9_9 : Int) => (.int .u8 x9_9, (mkH []))) (atN 10 (ctl1 g75p33)) (fun x9_9 => ((147, .int .u8 x9_9) :: (146, .int .i64 (fW .i64 (a1 + 2))) :: (145, .int .i64 a1) :: (144, .str a0) :: (143, .bool false) :: E28)) (idxH (by kernel_rfl)) (fun _ => by kernel_rfl) (fun x9_9 hx9_9 => ?_)
           let E33 : Env := ((149, .bool (decide (64 ≤ x9_9))) :: (148, .bool (decide (64 ≤ x9_9))) :: (147, .int .u8 x9_9) :: (146, .int .i64 (fW .i64 (a1 + 2))) :: (145, .int .i64 a1) :: (144, .str a0) :: (143, .bool false) :: E28)
           refine oR 2 (p' := (atN 12 (ctl1 g75p33))) (eE := E33) (H' := (mkH [])) (by kernel_rfl) ?_
           refine oS 149 (b := decide (64 ≤ x9_9)) (by kernel_rfl) (fun hb => ?_) (fun hb => ?_)
           ·refine oR 3 (p' := (atN 15 (ctl1 g75p33))) (eE := ((152, .int .i64 (fW .i64 (a1 + 2))) :: (151, .int .i64 a1) :: (150, .str a0) :: (149, .bool true) :: E33)) (H' := (mkH [])) (by kernel_rfl) ?_
            refine oH (fun (x9_15 : Int) => (.int .u8 x9_15, (mkH []))) (atN 16 (ctl1 g75p33)) (fun x9_15 => ((153, .int .u8 x9_15) :: (152, .int .i64 (fW .i64 (a1 + 2))) :: (151, .int .i64 a1) :: (150, .str a0) :: (149, .bool true) :: E33)) (idxH (by kernel_rfl)) (fun _ => by kernel_rfl) (fun x9_15 hx9_15 => ?_)
            let E34 : Env := ((156, .bool (decide (x9_15 ≤ 95))) :: (155, .bool (decide (x9_15 ≤ 95))) :: (154, .bool (decide (x9_15 ≤ 95))) :: (153, .int .u8 x9_15) :: (152, .int .i64 (fW .i64 (a1 + 2))) :: (151, .int .i64 a1) :: (150, .str a0) :: (149, .bool true) :: E33)
            refine oR 3 (p' := (atN 19 (ctl1 g75p33))) (eE := E34) (H' := (mkH [])) (by kernel_rfl) ?_
            refine oS 156 (b := decide (x9_15 ≤ 95)) (by kernel_rfl) (fun hb => ?_) (fun hb => ?_)
            ·let E35 : Env := ((171, .bool false) :: (170, .bool false) :: (169, .bool true) :: (168, .tuple []) :: (167, .tuple []) :: (166, .tuple []) :: (165, .tuple []) :: (164, .tuple []) :: (163, .tuple []) :: (162, .tuple []) :: (161, .tuple []) :: (160, .tuple []) :: (159, .tuple []) :: (158, .tuple []) :: (157, .tuple []) :: (156, .bool true) :: E34)
             refine oR 16 (p' := g75p37) (eE := E35) (H' := (mkH [])) (by kernel_rfl) ?_
             refine oK [0, 1, 171] (eE := [(0, .str a0), (1, .int .i64 a1), (171, .bool false)]) (by kernel_rfl) ?_
             exact hj17 false
            ·refine oR 3 (p' := (atN 22 (ctl1 g75p33))) (eE := ((159, .int .i64 (fW .i64 (a1 + 2))) :: (158, .int .i64 a1) :: (157, .str a0) :: (156, .bool false) :: E34)) (H' := (mkH [])) (by kernel_rfl) ?_
             refine oH (fun (x9_22 : Int) => (.int .u8 x9_22, (mkH []))) (atN 23 (ctl1 g75p33)) (fun x9_22 => ((160, .int .u8 x9_22) :: (159, .int .i64 (fW .i64 (a1 + 2))) :: (158, .int .i64 a1) :: (157, .str a0) :: (156, .bool false) :: E34)) (idxH (by kernel_rfl)) (fun _ => by kernel_rfl) (fun x9_22 hx9_22 => ?_)
             let E36 : Env := ((162, .bool (decide (97 ≤ x9_22))) :: (161, .bool (decide (97 ≤ x9_22))) :: (160, .int .u8 x9_22) :: (159, .int .i64 (fW .i64 (a1 + 2))) :: (158, .int .i64 a1) :: (157, .str a0) :: (156, .bool false) :: E34)
             refine oR 2 (p' := (atN 25 (ctl1 g75p33))) (eE := E36) (H' := (mkH [])) (by kernel_rfl) ?_
             refine oS 162 (b := decide (97 ≤ x9_22)) (by kernel_rfl) (fun hb => ?_) (fun hb => ?_)
             ·refine oR 3 (p' := (atN 28 (ctl1 g75p33))) (eE := ((165, .int .i64 (fW .i64 (a1 + 2))) :: (164, .int .i64 a1) :: (163, .str a0) :: (162, .bool true) :: E36)) (H' := (mkH [])) (by kernel_rfl) ?_
              refine oH (fun (x9_28 : Int) => (.int .u8 x9_28, (mkH []))) (atN 29 (ctl1 g75p33)) (fun x9_28 => ((166, .int .u8 x9_28) :: (165, .int .i64 (fW .i64 (a1 + 2))) :: (164, .int .i64 a1) :: (163, .str a0) :: (162, .bool true) :: E36)) (idxH (by kernel_rfl)) (fun _ => by kernel_rfl) (fun x9_28 hx9_28 => ?_)
              let E37 : Env := ((171, .bool (!(decide (x9_28 ≤ 122)))) :: (170, .bool (!(decide (x9_28 ≤ 122)))) :: (169, .bool (decide (x9_28 ≤ 122))) :: (168, .bool (decide (x9_28 ≤ 122))) :: (167, .bool (decide (x9_28 ≤ 122))) :: (166, .int .u8 x9_28) :: (165, .int .i64 (fW .i64 (a1 + 2))) :: (164, .int .i64 a1) :: (163, .str a0) :: (162, .bool true) :: E36)
              refine oR 6 (p' := g75p37) (eE := E37) (H' := (mkH [])) (by kernel_rfl) ?_
              refine oK [0, 1, 171] (eE := [(0, .str a0), (1, .int .i64 a1), (171, .bool (!(decide (x9_28 ≤ 122))))]) (by kernel_rfl) ?_
              exact hj17 (!(decide (x9_28 ≤ 122)))
             ·let E38 : Env := ((171, .bool true) :: (170, .bool true) :: (169, .bool false) :: (168, .bool false) :: (167, .tuple []) :: (166, .tuple []) :: (165, .tuple []) :: (164, .tuple []) :: (163, .tuple []) :: (162, .bool false) :: E36)
              refine oR 10 (p' := g75p37) (eE := E38) (H' := (mkH [])) (by kernel_rfl) ?_
              refine oK [0, 1, 171] (eE := [(0, .str a0), (1, .int .i64 a1), (171, .bool true)]) (by kernel_rfl) ?_
              exact hj17 true
           ·let E39 : Env := ((159, .int .i64 (fW .i64 (a1 + 2))) :: (158, .int .i64 a1) :: (157, .str a0) :: (156, .bool false) :: (155, .bool false) :: (154, .tuple []) :: (153, .tuple []) :: (152, .tuple []) :: (151, .tuple []) :: (150, .tuple []) :: (149, .bool false) :: E33)
            refine oR 10 (p' := (atN 22 (ctl1 g75p33))) (eE := E39) (H' := (mkH [])) (by kernel_rfl) ?_
            refine oH (fun (x9_22 : Int) => (.int .u8 x9_22, (mkH []))) (atN 23 (ctl1 g75p33)) (fun x9_22 => ((160, .int .u8 x9_22) :: E39)) (idxH (by kernel_rfl)) (fun _ => by kernel_rfl) (fun x9_22 hx9_22 => ?_)
            refine oR 2 (p' := (atN 25 (ctl1 g75p33))) (eE := ((162, .bool (decide (97 ≤ x9_22))) :: (161, .bool (decide (97 ≤ x9_22))) :: (160, .int .u8 x9_22) :: E39)) (H' := (mkH [])) (by kernel_rfl) ?_
            refine oS 162 (b := decide (97 ≤ x9_22)) (by kernel_rfl) (fun hb => ?_) (fun hb => ?_)
            ·let E40 : Env := ((165, .int .i64 (fW .i64 (a1 + 2))) :: (164, .int .i64 a1) :: (163, .str a0) :: (162, .bool true) :: (162, .bool (decide (97 ≤ x9_22))) :: (161, .bool (decide (97 ≤ x9_22))) :: (160, .int .u8 x9_22) :: E39)
             refine oR 3 (p' := (atN 28 (ctl1 g75p33))) (eE := E40) (H' := (mkH [])) (by kernel_rfl) ?_
             refine oH (fun (x9_28 : Int) => (.int .u8 x9_28, (mkH []))) (atN 29 (ctl1 g75p33)) (fun x9_28 => ((166, .int .u8 x9_28) :: E40)) (idxH (by kernel_rfl)) (fun _ => by kernel_rfl) (fun x9_28 hx9_28 => ?_)
             let E41 : Env := ((171, .bool (!(decide (x9_28 ≤ 122)))) :: (170, .bool (!(decide (x9_28 ≤ 122)))) :: (169, .bool (decide (x9_28 ≤ 122))) :: (168, .bool (decide (x9_28 ≤ 122))) :: (167, .bool (decide (x9_28 ≤ 122))) :: (166, .int .u8 x9_28) :: E40)
             refine oR 6 (p' := g75p37) (eE := E41) (H' := (mkH [])) (by kernel_rfl) ?_
             refine oK [0, 1, 171] (eE := [(0, .str a0), (1, .int .i64 a1), (171, .bool (!(decide (x9_28 ≤ 122))))]) (by kernel_rfl) ?_
             exact hj17 (!(decide (x9_28 ≤ 122)))
            ·let E42 : Env := ((171, .bool true) :: (170, .bool true) :: (169, .bool false) :: (168, .bool false) :: (167, .tuple []) :: (166, .tuple []) :: (165, .tuple []) :: (164, .tuple []) :: (163, .tuple []) :: (162, .bool false) :: (162, .bool (decide (97 ≤ x9_22))) :: (161, .bool (decide (97 ≤ x9_22))) :: (160, .int .u8 x9_22) :: E39)
             refine oR 10 (p' := g75p37) (eE := E42) (H' := (mkH [])) (by kernel_rfl) ?_
             refine oK [0, 1, 171] (eE := [(0, .str a0), (1, .int .i64 a1), (171, .bool true)]) (by kernel_rfl) ?_
             exact hj17 true
        ·let E43 : Env := [(181, .int .i64 (fW .i64 (a1 + 1))), (180, .int .i64 a1), (179, .str a0), (135, .bool false), (0, .str a0), (1, .int .i64 a1), (135, .bool (decide (x1_3 = 94)))]
         refine oR 7 (p' := (atN 3 (ctl1 g75p34))) (eE := E43) (H' := (mkH [])) (by kernel_rfl) ?_
         refine oC (fun (x10_3 : (Int × Int)) => .tuple [.int .i64 x10_3.1, .int .i64 x10_3.2]) (atN 4 (ctl1 g75p34)) (fun x10_3 => ((182, .tuple [.int .i64 x10_3.1, .int .i64 x10_3.2]) :: E43)) (fi := 56) (args := [.str a0, .int .i64 (fW .i64 (a1 + 1))]) (by kernel_rfl) (by kernel_rfl) (fun _ => by kernel_rfl) (fun r h => g56_ok k a0 (fW .i64 (a1 + 1)) r h) (fun _ => by kernel_rfl) (fun x10_3 hx10_3 => ?_)
         let E44 : Env := ((17, .int .i64 x10_3.2) :: (16, .int .i64 x10_3.1) :: (184, .int .i64 x10_3.2) :: (183, .int .i64 x10_3.1) :: (178, .tuple [.int .i64 x10_3.1, .int .i64 x10_3.2]) :: (182, .tuple [.int .i64 x10_3.1, .int .i64 x10_3.2]) :: E43)
         refine oR 8 (p' := g75p38) (eE := E44) (H' := (mkH [])) (by kernel_rfl) ?_
         refine oK [16, 17] (eE := [(16, .int .i64 x10_3.1), (17, .int .i64 x10_3.2)]) (by kernel_rfl) ?_
         refine oR 4 (p' := g75p41) (eE := [(186, .bool (decide (x10_3.1 < 32))), (185, .int .i64 x10_3.1), (16, .int .i64 x10_3.1), (17, .int .i64 x10_3.2)]) (H' := (mkH [])) (by kernel_rfl) ?_
         refine oS 186 (b := decide (x10_3.1 < 32)) (by kernel_rfl) (fun hb => ?_) (fun hb => ?_)
         ·let E45 : Env := [(5, .int .i64 0), (4, .int .i64 (-1)), (186, .bool true), (186, .bool (decide (x10_3.1 < 32))), (185, .int .i64 x10_3.1), (16, .int .i64 x10_3.1), (17, .int .i64 x10_3.2)]
          refine oR 7 (p' := .fin) (eE := E45) (H' := (mkH [])) (by kernel_rfl) ?_
          exact oT (r := (((-1) : Int), (0 : Int))) (xs := [.int .i64 (-1), .int .i64 0]) (v := .tuple [.int .i64 (-1), .int .i64 0]) (by kernel_rfl) (by kernel_rfl) (by kernel_rfl) (.pures (by kernel_rfl)) (by kernel_rfl)
         ·let E46 : Env := [(5, .int .i64 (fW .i64 (1 + x10_3.2))), (4, .int .i64 x10_3.1), (189, .int .i64 (fW .i64 (1 + x10_3.2))), (188, .int .i64 x10_3.2), (187, .int .i64 x10_3.1), (186, .bool false), (186, .bool (decide (x10_3.1 < 32))), (185, .int .i64 x10_3.1), (16, .int .i64 x10_3.1), (17, .int .i64 x10_3.2)]
          refine oR 11 (p' := .fin) (eE := E46) (H' := (mkH [])) (by kernel_rfl) ?_
          exact oT (r := (x10_3.1, fW .i64 (1 + x10_3.2))) (xs := [.int .i64 x10_3.1, .int .i64 (fW .i64 (1 + x10_3.2))]) (v := .tuple [.int .i64 x10_3.1, .int .i64 (fW .i64 (1 + x10_3.2))]) (by kernel_rfl) (by kernel_rfl) (by kernel_rfl) (.pures (by kernel_rfl)) (by kernel_rfl)
     ·refine oS 73 (b := decide (x1_3 = 120)) (by kernel_rfl) (fun hb => ?_) (fun hb => ?_)
      ·let E47 : Env := ((80, .bool (decide (fW .i64 (a1 + 2) < (a0.length : Int)))) :: (79, .bool (decide (fW .i64 (a1 + 2) < (a0.length : Int)))) :: (78, .bool (decide (fW .i64 (a1 + 2) < (a0.length : Int)))) :: (77, .int .i64 (a0.length : Int)) :: (76, .str a0) :: (75, .int .i64 (fW .i64 (a1 + 2))) :: (74, .int .i64 a1) :: (73, .bool true) :: E12)
       refine oR 7 (p' := (atN 10 (ctl1 g75p18))) (eE := E47) (H' := (mkH [])) (by kernel_rfl) ?_
       refine oS 80 (b := decide (fW .i64 (a1 + 2) < (a0.length : Int))) (by kernel_rfl) (fun hb => ?_) (fun hb => ?_)
       ·refine oR 3 (p' := (atN 13 (ctl1 g75p18))) (eE := ((83, .int .i64 (fW .i64 (a1 + 2))) :: (82, .int .i64 a1) :: (81, .str a0) :: (80, .bool true) :: E47)) (H' := (mkH [])) (by kernel_rfl) ?_
        refine oH (fun (x5_13 : Int) => (.int .u8 x5_13, (mkH []))) (atN 14 (ctl1 g75p18)) (fun x5_13 => ((84, .int .u8 x5_13) :: (83, .int .i64 (fW .i64 (a1 + 2))) :: (82, .int .i64 a1) :: (81, .str a0) :: (80, .bool true) :: E47)) (idxH (by kernel_rfl)) (fun _ => by kernel_rfl) (fun x5_13 hx5_13 => ?_)
        let E48 : Env := ((70, .bool (decide (x5_13 = 123))) :: (86, .bool (decide (x5_13 = 123))) :: (85, .bool (decide (x5_13 = 123))) :: (84, .int .u8 x5_13) :: (83, .int .i64 (fW .i64 (a1 + 2))) :: (82, .int .i64 a1) :: (81, .str a0) :: (80, .bool true) :: E47)
        refine oR 4 (p' := g75p20) (eE := E48) (H' := (mkH [])) (by kernel_rfl) ?_
        refine oK [0, 1, 6, 70] (eE := [(0, .str a0), (1, .int .i64 a1), (6, .int .u8 x1_3), (70, .bool (decide (x5_13 = 123)))]) (by kernel_rfl) ?_
        exact hj15 (decide (x5_13 = 123))
       ·let E49 : Env := ((70, .bool false) :: (86, .bool false) :: (85, .tuple []) :: (84, .tuple []) :: (83, .tuple []) :: (82, .tuple []) :: (81, .tuple []) :: (80, .bool false) :: E47)
        refine oR 8 (p' := g75p20) (eE := E49) (H' := (mkH [])) (by kernel_rfl) ?_
        refine oK [0, 1, 6, 70] (eE := [(0, .str a0), (1, .int .i64 a1), (6, .int .u8 x1_3), (70, .bool false)]) (by kernel_rfl) ?_
        exact hj15 false
      ·let E50 : Env := ((70, .bool false) :: (86, .bool false) :: (85, .tuple []) :: (84, .tuple []) :: (83, .tuple []) :: (82, .tuple []) :: (81, .tuple []) :: (80, .bool false) :: (79, .bool false) :: (78, .tuple []) :: (77, .tuple []) :: (76, .tuple []) :: (75, .tuple []) :: (74, .tuple []) :: (73, .bool false) :: E12)
       refine oR 15 (p' := g75p20) (eE := E50) (H' := (mkH [])) (by kernel_rfl) ?_
       refine oK [0, 1, 6, 70] (eE := [(0, .str a0), (1, .int .i64 a1), (6, .int .u8 x1_3), (70, .bool false)]) (by kernel_rfl) ?_
       exact hj15 false
   ·refine oS 56 (b := decide (48 ≤ x1_3)) (by kernel_rfl) (fun hb => ?_) (fun hb => ?_)
    ·let E51 : Env := ((53, .bool (decide (x1_3 ≤ 55))) :: (59, .bool (decide (x1_3 ≤ 55))) :: (58, .bool (decide (x1_3 ≤ 55))) :: (57, .int .u8 x1_3) :: (56, .bool true) :: (56, .bool (decide (48 ≤ x1_3))) :: (55, .bool (decide (48 ≤ x1_3))) :: (54, .int .u8 x1_3) :: (41, .bool false) :: E5)
     refine oR 5 (p' := g75p14) (eE := E51) (H' := (mkH [])) (by kernel_rfl) ?_
     refine oK [0, 1, 6, 53] (eE := [(0, .str a0), (1, .int .i64 a1), (6, .int .u8 x1_3), (53, .bool (decide (x1_3 ≤ 55)))]) (by kernel_rfl) ?_
     exact hj14 (decide (x1_3 ≤ 55))
    ·let E52 : Env := ((53, .bool false) :: (59, .bool false) :: (58, .tuple []) :: (57, .tuple []) :: (56, .bool false) :: (56, .bool (decide (48 ≤ x1_3))) :: (55, .bool (decide (48 ≤ x1_3))) :: (54, .int .u8 x1_3) :: (41, .bool false) :: E5)
     refine oR 5 (p' := g75p14) (eE := E52) (H' := (mkH [])) (by kernel_rfl) ?_
     refine oK [0, 1, 6, 53] (eE := [(0, .str a0), (1, .int .i64 a1), (6, .int .u8 x1_3), (53, .bool false)]) (by kernel_rfl) ?_
     exact hj14 false
def g75 (k : Nat) (a0 : (List Nat)) (a1 : Int) : Option (Int × Int) :=
 jn (fun (z12 : Bool) => if z12 then (some (((-1) : Int), (0 : Int))) else ((nthS a0 (fW .i64 (a1 + 1))).bind fun x1_3 => g75_l13 k a0 a1 x1_3 k 0)) (fun j12 => if (decide (a1 < 0)) then (j12 true) else (if (decide (fW .i64 ((a0.length : Int) - 1) ≤ a1)) then (j12 true) else ((nthS a0 a1).bind fun x0_12 => j12 (!decide (x0_12 = 92)))))
theorem g75_ok (k : Nat) (a0 : (List Nat)) (a1 : Int) (r : (Int × Int)) (h : g75 k a0 a1 = some r) : PureOk Try.prog 75 [.str a0, .int .i64 a1] (.tuple [.int .i64 r.1, .int .i64 r.2]) := by
 refine pure_of X75 (fun _ => rfl) Try.func75 (by decide +kernel) (by kernel_rfl) (t := g75 k a0 a1) ?_ h
 unfold g75
 refine oE (eE := [(0, .str a0), (1, .int .i64 a1)]) (by kernel_rfl) ?_
 let E1 : Env := [(20, .bool (decide (a1 < 0))), (19, .bool (decide (a1 < 0))), (18, .int .i64 a1), (5, .int .i64 0), (4, .int .i64 0), (0, .str a0), (1, .int .i64 a1)]
 refine oR 11 (p' := (atN 3 (ctl1 g75p1))) (eE := E1) (H' := (mkH [])) (by kernel_rfl) ?_
 refine oJ (f := fun (z12 : Bool) => if z12 then (some (((-1) : Int), (0 : Int))) else ((nthS a0 (fW .i64 (a1 + 1))).bind fun x1_3 => g75_l13 k a0 a1 x1_3 k 0)) g75p2 (fun (z12 : Bool) => [(0, .str a0), (1, .int .i64 a1), (32, .bool z12)]) (fun (z12 : Bool) => (mkH [])) (fun z12 => ?_) (fun j12 hj12 => ?_)
 ·refine oS 32 (b := z12) (by kernel_rfl) (fun hb => ?_) (fun hb => ?_)
  ·let E2 : Env := [(5, .int .i64 0), (4, .int .i64 (-1)), (32, .bool true), (0, .str a0), (1, .int .i64 a1), (32, .bool z12)]
   refine oR 7 (p' := .fin) (eE := E2) (H' := (mkH [])) (by kernel_rfl) ?_
   exact oT (r := (((-1) : Int), (0 : Int))) (xs := [.int .i64 (-1), .int .i64 0]) (v := .tuple [.int .i64 (-1), .int .i64 0]) (by kernel_rfl) (by kernel_rfl) (by kernel_rfl) (.pures (by kernel_rfl)) (by kernel_rfl)
  ·let E3 : Env := [(35, .int .i64 (fW .i64 (a1 + 1))), (34, .int .i64 a1), (33, .str a0), (32, .bool false), (0, .str a0), (1, .int .i64 a1), (32, .bool z12)]
   refine oR 7 (p' := (atN 3 (ctl1 g75p4))) (eE := E3) (H' := (mkH [])) (by kernel_rfl) ?_
   refine oH (fun (x1_3 : Int) => (.int .u8 x1_3, (mkH []))) (atN 4 (ctl1 g75p4)) (fun x1_3 => ((36, .int .u8 x1_3) :: E3)) (idxH (by kernel_rfl)) (fun _ => by kernel_rfl) (fun x1_3 hx1_3 => ?_)
   refine oR 5 (p' := (atN 1 (ctl1 g75p6))) (eE := ((37, .slice 0 9 0 9 1) :: (6, .int .u8 x1_3) :: (36, .int .u8 x1_3) :: E3)) (H' := (mkH [⟨[.int .i64 8, .int .i64 127, .int .i64 27, .int .i64 12, .int .i64 10, .int .i64 13, .int .i64 32, .int .i64 9, .int .i64 11], 0, false⟩])) (by kernel_rfl) ?_
   refine ok_frz [⟨[.int .i64 8, .int .i64 127, .int .i64 27, .int .i64 12, .int .i64 10, .int .i64 13, .int .i64 32, .int .i64 9, .int .i64 11], 0, false⟩] 37 0 9 1 0 [.int .i64 8, .int .i64 127, .int .i64 27, .int .i64 12, .int .i64 10, .int .i64 13, .int .i64 32, .int .i64 9, .int .i64 11] [0, 1, 6, 32, 33, 34, 35, 36] (env0 := [(0, .str a0), (1, .int .i64 a1), (6, .int .u8 x1_3), (32, .bool false), (33, .str a0), (34, .int .i64 a1), (35, .int .i64 (fW .i64 (a1 + 1))), (36, .int .u8 x1_3)]) (by kernel_rfl) rfl (.inl (by kernel_rfl)) rfl rfl (by decide) (by kernel_rfl) (by kernel_rfl) (by kernel_rfl) ⟨.inl rfl, trivial⟩ ?_
   refine oE (eE := [(37, .vec (g75c0).length 1 ((g75c0).flatMap e3)), (0, .str a0), (1, .int .i64 a1), (6, .int .u8 x1_3), (32, .bool false), (33, .str a0), (34, .int .i64 a1), (35, .int .i64 (fW .i64 (a1 + 1))), (36, .int .u8 x1_3)]) (by kernel_rfl) ?_
   refine ok_heap (H' := (mkH [⟨[], 0, false⟩])) (by kernel_rfl) ?_
   let E4 : Env := [(9, .int .i64 0), (8, .vec (g75c0).length 1 ((g75c0).flatMap e3)), (7, .str g75c1), (37, .vec (g75c0).length 1 ((g75c0).flatMap e3)), (0, .str a0), (1, .int .i64 a1), (6, .int .u8 x1_3), (32, .bool false), (33, .str a0), (34, .int .i64 a1), (35, .int .i64 (fW .i64 (a1 + 1))), (36, .int .u8 x1_3)]
   refine oR 10 (p' := g75p8) (eE := E4) (H' := (mkH [⟨[], 0, false⟩])) (by kernel_rfl) ?_
   refine oK [0, 1, 6, 7, 8, 9] (eE := [(0, .str a0), (1, .int .i64 a1), (6, .int .u8 x1_3), (7, .str g75c1), (8, .vec (g75c0).length 1 ((g75c0).flatMap e3)), (9, .int .i64 0)]) (by kernel_rfl) ?_
   refine ok_cut [] [⟨[], 0, false⟩] (by kernel_rfl) rfl (by kernel_rfl) trivial ?_
   exact (g75_l13_ok k a0 a1 x1_3 k) 0
 ·refine oS 20 (b := decide (a1 < 0)) (by kernel_rfl) (fun hb => ?_) (fun hb => ?_)
  ·let E53 : Env := ((32, .bool true) :: (31, .tuple []) :: (30, .tuple []) :: (29, .tuple []) :: (28, .tuple []) :: (27, .bool true) :: (26, .bool true) :: (25, .tuple []) :: (24, .tuple []) :: (23, .tuple []) :: (22, .tuple []) :: (21, .tuple []) :: (20, .bool true) :: E1)
   refine oR 13 (p' := g75p2) (eE := E53) (H' := (mkH [])) (by kernel_rfl) ?_
   refine oK [0, 1, 32] (eE := [(0, .str a0), (1, .int .i64 a1), (32, .bool true)]) (by kernel_rfl) ?_
   exact hj12 true
  ·let E54 : Env := ((27, .bool (decide (fW .i64 ((a0.length : Int) - 1) ≤ a1))) :: (26, .bool (decide (fW .i64 ((a0.length : Int) - 1) ≤ a1))) :: (25, .bool (decide (fW .i64 ((a0.length : Int) - 1) ≤ a1))) :: (24, .int .i64 (fW .i64 ((a0.length : Int) - 1))) :: (23, .int .i64 (a0.length : Int)) :: (22, .str a0) :: (21, .int .i64 a1) :: (20, .bool false) :: E1)
   refine oR 7 (p' := (atN 10 (ctl1 g75p1))) (eE := E54) (H' := (mkH [])) (by kernel_rfl) ?_
   refine oS 27 (b := decide (fW .i64 ((a0.length : Int) - 1) ≤ a1)) (by kernel_rfl) (fun hb => ?_) (fun hb => ?_)
   ·let E55 : Env := ((32, .bool true) :: (31, .tuple []) :: (30, .tuple []) :: (29, .tuple []) :: (28, .tuple []) :: (27, .bool true) :: E54)
    refine oR 6 (p' := g75p2) (eE := E55) (H' := (mkH [])) (by kernel_rfl) ?_
    refine oK [0, 1, 32] (eE := [(0, .str a0), (1, .int .i64 a1), (32, .bool true)]) (by kernel_rfl) ?_
    exact hj12 true
   ·refine oR 2 (p' := (atN 12 (ctl1 g75p1))) (eE := ((29, .int .i64 a1) :: (28, .str a0) :: (27, .bool false) :: E54)) (H' := (mkH [])) (by kernel_rfl) ?_
    refine oH (fun (x0_12 : Int) => (.int .u8 x0_12, (mkH []))) (atN 13 (ctl1 g75p1)) (fun x0_12 => ((30, .int .u8 x0_12) :: (29, .int .i64 a1) :: (28, .str a0) :: (27, .bool false) :: E54)) (idxH (by kernel_rfl)) (fun _ => by kernel_rfl) (fun x0_12 hx0_12 => ?_)
    let E56 : Env := ((32, .bool (!decide (x0_12 = 92))) :: (31, .bool (!decide (x0_12 = 92))) :: (30, .int .u8 x0_12) :: (29, .int .i64 a1) :: (28, .str a0) :: (27, .bool false) :: E54)
    refine oR 3 (p' := g75p2) (eE := E56) (H' := (mkH [])) (by kernel_rfl) ?_
    refine oK [0, 1, 32] (eE := [(0, .str a0), (1, .int .i64 a1), (32, .bool (!decide (x0_12 = 92)))]) (by kernel_rfl) ?_
    exact hj12 (!decide (x0_12 = 92))
end
end Go.Proofs.Ytbmijiibfaacmaa.Am
set_option maxRecDepth 100000
set_option linter.unusedVariables false
namespace Go.Proofs.Ytbmijiibfaacmaa.Am
noncomputable section
open Go
def X63 : Fx Int := ⟨Try.prog, cx, Try.f63, fun r => .int .i64 r, 0, fun _ => H0, cxTi, cxOrd⟩
def g63p0 : Pt := nav [0] (bodyAt Try.f63)
def g63p1 : Pt := nav [0, 0, 0, 0] g63p0
def g63p2 : Pt := nav [0, 0] g63p1
def g63p3 : Pt := nav [1, 0, 0] g63p2
def g63p4 : Pt := nav [2, 0, 0] g63p2
def g63p5 : Pt := nav [0, 0, 0] g63p3
def g63p6 : Pt := nav [0, 0, 0, 0] g63p4
def g63p7 : Pt := nav [0, 0] g63p5
def g63p8 : Pt := nav [0, 0] g63p6
def g63 (k : Nat) (a0 : (List Nat)) (a1 : Int) : Option Int :=
 jn (fun (z3 : Bool) => if z3 then ((g75 k a0 (fW .i64 (a1 + 1))).bind fun x1_3 => if (decide (0 ≤ x1_3.1)) then (some (fW .i64 (x1_3.2 + 1))) else (some (0 : Int))) else ((g56 k a0 (fW .i64 (a1 + 1))).bind fun x2_3 => jn (fun (z4 : Bool) => if z4 then (some (0 : Int)) else (some (fW .i64 (x2_3.2 + 1)))) (fun j4 => if (decide (x2_3.1 ≤ 32)) then (j4 true) else (j4 (decide (x2_3.1 = 127)))))) (fun j3 => if (decide (fW .i64 (a1 + 1) < (a0.length : Int))) then ((nthS a0 (fW .i64 (a1 + 1))).bind fun x0_9 => j3 (decide (x0_9 = 92))) else (j3 false))
theorem g63_ok (k : Nat) (a0 : (List Nat)) (a1 : Int) (r : Int) (h : g63 k a0 a1 = some r) : PureOk Try.prog 63 [.str a0, .int .i64 a1] (.int .i64 r) := by
 refine pure_of X63 (fun _ => rfl) Try.func63 (by decide +kernel) (by kernel_rfl) (t := g63 k a0 a1) ?_ h
 unfold g63
 refine oE (eE := [(0, .str a0), (1, .int .i64 a1)]) (by kernel_rfl) ?_
 let E1 : Env := [(14, .bool (decide (fW .i64 (a1 + 1) < (a0.length : Int)))), (13, .bool (decide (fW .i64 (a1 + 1) < (a0.length : Int)))), (12, .int .i64 (a0.length : Int)), (11, .str a0), (10, .int .i64 (fW .i64 (a1 + 1))), (9, .int .i64 a1), (4, .int .i64 0), (0, .str a0), (1, .int .i64 a1)]
 refine oR 13 (p' := (atN 6 (ctl1 g63p1))) (eE := E1) (H' := (mkH [])) (by kernel_rfl) ?_
 refine oJ (f := fun (z3 : Bool) => if z3 then ((g75 k a0 (fW .i64 (a1 + 1))).bind fun x1_3 => if (decide (0 ≤ x1_3.1)) then (some (fW .i64 (x1_3.2 + 1))) else (some (0 : Int))) else ((g56 k a0 (fW .i64 (a1 + 1))).bind fun x2_3 => jn (fun (z4 : Bool) => if z4 then (some (0 : Int)) else (some (fW .i64 (x2_3.2 + 1)))) (fun j4 => if (decide (x2_3.1 ≤ 32)) then (j4 true) else (j4 (decide (x2_3.1 = 127)))))) g63p2 (fun (z3 : Bool) => [(0, .str a0), (1, .int .i64 a1), (20, .bool z3)]) (fun (z3 : Bool) => (mkH [])) (fun z3 => ?_) (fun j3 hj3 => ?_)
 ·refine oS 20 (b := z3) (by kernel_rfl) (fun hb => ?_) (fun hb => ?_)
  ·let E2 : Env := [(24, .int .i64 (fW .i64 (a1 + 1))), (23, .int .i64 a1), (22, .str a0), (20, .bool true), (0, .str a0), (1, .int .i64 a1), (20, .bool z3)]
   refine oR 7 (p' := (atN 3 (ctl1 g63p3))) (eE := E2) (H' := (mkH [])) (by kernel_rfl) ?_
   refine oC (fun (x1_3 : (Int × Int)) => .tuple [.int .i64 x1_3.1, .int .i64 x1_3.2]) (atN 4 (ctl1 g63p3)) (fun x1_3 => ((25, .tuple [.int .i64 x1_3.1, .int .i64 x1_3.2]) :: E2)) (fi := 75) (args := [.str a0, .int .i64 (fW .i64 (a1 + 1))]) (by kernel_rfl) (by kernel_rfl) (fun _ => by kernel_rfl) (fun r h => g75_ok k a0 (fW .i64 (a1 + 1)) r h) (fun _ => by kernel_rfl) (fun x1_3 hx1_3 => ?_)
   let E3 : Env := ((6, .int .i64 x1_3.2) :: (5, .int .i64 x1_3.1) :: (27, .int .i64 x1_3.2) :: (26, .int .i64 x1_3.1) :: (21, .tuple [.int .i64 x1_3.1, .int .i64 x1_3.2]) :: (25, .tuple [.int .i64 x1_3.1, .int .i64 x1_3.2]) :: E2)
   refine oR 7 (p' := g63p5) (eE := E3) (H' := (mkH [])) (by kernel_rfl) ?_
   refine oK [5, 6] (eE := [(5, .int .i64 x1_3.1), (6, .int .i64 x1_3.2)]) (by kernel_rfl) ?_
   refine oR 4 (p' := g63p7) (eE := [(29, .bool (decide (0 ≤ x1_3.1))), (28, .int .i64 x1_3.1), (5, .int .i64 x1_3.1), (6, .int .i64 x1_3.2)]) (H' := (mkH [])) (by kernel_rfl) ?_
   refine oS 29 (b := decide (0 ≤ x1_3.1)) (by kernel_rfl) (fun hb => ?_) (fun hb => ?_)
   ·let E4 : Env := [(4, .int .i64 (fW .i64 (x1_3.2 + 1))), (31, .int .i64 (fW .i64 (x1_3.2 + 1))), (30, .int .i64 x1_3.2), (29, .bool true), (29, .bool (decide (0 ≤ x1_3.1))), (28, .int .i64 x1_3.1), (5, .int .i64 x1_3.1), (6, .int .i64 x1_3.2)]
    refine oR 8 (p' := .fin) (eE := E4) (H' := (mkH [])) (by kernel_rfl) ?_
    exact oT (r := (fW .i64 (x1_3.2 + 1))) (xs := [.int .i64 (fW .i64 (x1_3.2 + 1))]) (v := .int .i64 (fW .i64 (x1_3.2 + 1))) (by kernel_rfl) (by kernel_rfl) (by kernel_rfl) (.pures (by kernel_rfl)) (by kernel_rfl)
   ·let E5 : Env := [(4, .int .i64 0), (29, .bool false), (29, .bool (decide (0 ≤ x1_3.1))), (28, .int .i64 x1_3.1), (5, .int .i64 x1_3.1), (6, .int .i64 x1_3.2)]
    refine oR 7 (p' := .fin) (eE := E5) (H' := (mkH [])) (by kernel_rfl) ?_
    exact oT (r := (0 : Int)) (xs := [.int .i64 0]) (v := .int .i64 0) (by kernel_rfl) (by kernel_rfl) (by kernel_rfl) (.pures (by kernel_rfl)) (by kernel_rfl)
  ·let E6 : Env := [(35, .int .i64 (fW .i64 (a1 + 1))), (34, .int .i64 a1), (33, .str a0), (20, .bool false), (0, .str a0), (1, .int .i64 a1), (20, .bool z3)]
   refine oR 7 (p' := (atN 3 (ctl1 g63p4))) (eE := E6) (H' := (mkH [])) (by kernel_rfl) ?_
   refine oC (fun (x2_3 : (Int × Int)) => .tuple [.int .i64 x2_3.1, .int .i64 x2_3.2]) (atN 4 (ctl1 g63p4)) (fun x2_3 => ((36, .tuple [.int .i64 x2_3.1, .int .i64 x2_3.2]) :: E6)) (fi := 56) (args := [.str a0, .int .i64 (fW .i64 (a1 + 1))]) (by kernel_rfl) (by kernel_rfl) (fun _ => by kernel_rfl) (fun r h => g56_ok k a0 (fW .i64 (a1 + 1)) r h) (fun _ => by kernel_rfl) (fun x2_3 hx2_3 => ?_)
   let E7 : Env := ((8, .int .i64 x2_3.2) :: (7, .int .i64 x2_3.1) :: (38, .int .i64 x2_3.2) :: (37, .int .i64 x2_3.1) :: (32, .tuple [.int .i64 x2_3.1, .int .i64 x2_3.2]) :: (36, .tuple [.int .i64 x2_3.1, .int .i64 x2_3.2]) :: E6)
   refine oR 8 (p' := g63p6) (eE := E7) (H' := (mkH [])) (by kernel_rfl) ?_
   refine oK [7, 8] (eE := [(7, .int .i64 x2_3.1), (8, .int .i64 x2_3.2)]) (by kernel_rfl) ?_
   let E8 : Env := [(41, .bool (decide (x2_3.1 ≤ 32))), (40, .bool (decide (x2_3.1 ≤ 32))), (39, .int .i64 x2_3.1), (7, .int .i64 x2_3.1), (8, .int .i64 x2_3.2)]
   refine oR 4 (p' := (atN 3 (ctl1 g63p6))) (eE := E8) (H' := (mkH [])) (by kernel_rfl) ?_
   refine oJ (f := fun (z4 : Bool) => if z4 then (some (0 : Int)) else (some (fW .i64 (x2_3.2 + 1)))) g63p8 (fun (z4 : Bool) => [(8, .int .i64 x2_3.2), (44, .bool z4)]) (fun (z4 : Bool) => (mkH [])) (fun z4 => ?_) (fun j4 hj4 => ?_)
   ·refine oS 44 (b := z4) (by kernel_rfl) (fun hb => ?_) (fun hb => ?_)
    ·refine oR 6 (p' := .fin) (eE := [(4, .int .i64 0), (44, .bool true), (8, .int .i64 x2_3.2), (44, .bool z4)]) (H' := (mkH [])) (by kernel_rfl) ?_
     exact oT (r := (0 : Int)) (xs := [.int .i64 0]) (v := .int .i64 0) (by kernel_rfl) (by kernel_rfl) (by kernel_rfl) (.pures (by kernel_rfl)) (by kernel_rfl)
    ·let E9 : Env := [(4, .int .i64 (fW .i64 (x2_3.2 + 1))), (46, .int .i64 (fW .i64 (x2_3.2 + 1))), (45, .int .i64 x2_3.2), (44, .bool false), (8, .int .i64 x2_3.2), (44, .bool z4)]
     refine oR 9 (p' := .fin) (eE := E9) (H' := (mkH [])) (by kernel_rfl) ?_
     exact oT (r := (fW .i64 (x2_3.2 + 1))) (xs := [.int .i64 (fW .i64 (x2_3.2 + 1))]) (v := .int .i64 (fW .i64 (x2_3.2 + 1))) (by kernel_rfl) (by kernel_rfl) (by kernel_rfl) (.pures (by kernel_rfl)) (by kernel_rfl)
   ·refine oS 41 (b := decide (x2_3.1 ≤ 32)) (by kernel_rfl) (fun hb => ?_) (fun hb => ?_)
    ·refine oR 4 (p' := g63p8) (eE := ((44, .bool true) :: (43, .tuple []) :: (42, .tuple []) :: (41, .bool true) :: E8)) (H' := (mkH [])) (by kernel_rfl) ?_
     refine oK [8, 44] (eE := [(8, .int .i64 x2_3.2), (44, .bool true)]) (by kernel_rfl) ?_
     exact hj4 true
    ·refine oR 4 (p' := g63p8) (eE := ((44, .bool (decide (x2_3.1 = 127))) :: (43, .bool (decide (x2_3.1 = 127))) :: (42, .int .i64 x2_3.1) :: (41, .bool false) :: E8)) (H' := (mkH [])) (by kernel_rfl) ?_
     refine oK [8, 44] (eE := [(8, .int .i64 x2_3.2), (44, .bool (decide (x2_3.1 = 127)))]) (by kernel_rfl) ?_
     exact hj4 (decide (x2_3.1 = 127))
 ·refine oS 14 (b := decide (fW .i64 (a1 + 1) < (a0.length : Int))) (by kernel_rfl) (fun hb => ?_) (fun hb => ?_)
  ·refine oR 3 (p' := (atN 9 (ctl1 g63p1))) (eE := ((17, .int .i64 (fW .i64 (a1 + 1))) :: (16, .int .i64 a1) :: (15, .str a0) :: (14, .bool true) :: E1)) (H' := (mkH [])) (by kernel_rfl) ?_
   refine oH (fun (x0_9 : Int) => (.int .u8 x0_9, (mkH []))) (atN 10 (ctl1 g63p1)) (fun x0_9 => ((18, .int .u8 x0_9) :: (17, .int .i64 (fW .i64 (a1 + 1))) :: (16, .int .i64 a1) :: (15, .str a0) :: (14, .bool true) :: E1)) (idxH (by kernel_rfl)) (fun _ => by kernel_rfl) (fun x0_9 hx0_9 => ?_)
   let E10 : Env := ((20, .bool (decide (x0_9 = 92))) :: (19, .bool (decide (x0_9 = 92))) :: (18, .int .u8 x0_9) :: (17, .int .i64 (fW .i64 (a1 + 1))) :: (16, .int .i64 a1) :: (15, .str a0) :: (14, .bool true) :: E1)
   refine oR 3 (p' := g63p2) (eE := E10) (H' := (mkH [])) (by kernel_rfl) ?_
   refine oK [0, 1, 20] (eE := [(0, .str a0), (1, .int .i64 a1), (20, .bool (decide (x0_9 = 92)))]) (by kernel_rfl) ?_
   exact hj3 (decide (x0_9 = 92))
  ·let E11 : Env := ((20, .bool false) :: (19, .tuple []) :: (18, .tuple []) :: (17, .tuple []) :: (16, .tuple []) :: (15, .tuple []) :: (14, .bool false) :: E1)
   refine oR 7 (p' := g63p2) (eE := E11) (H' := (mkH [])) (by kernel_rfl) ?_
   refine oK [0, 1, 20] (eE := [(0, .str a0), (1, .int .i64 a1), (20, .bool false)]) (by kernel_rfl) ?_
   exact hj3 false
end
end Go.Proofs.Ytbmijiibfaacmaa.Am
set_option maxRecDepth 100000
set_option linter.unusedVariables false
namespace Go.Proofs.Ytbmijiibfaacmaa.Am
noncomputable section
open Go
def X46 : Fx (S46 × Int) := ⟨Try.prog, cx, Try.f46, fun r => .tuple [.agg [.int .i64 r.1.f0, .str r.1.f1, .int .i64 r.1.f2], .int .i64 r.2], 0, fun _ => H0, cxTi, cxOrd⟩
def g46p0 : Pt := nav [0] (bodyAt Try.f46)
def g46p1 : Pt := nav [0, 0, 0, 0] g46p0
def g46p2 : Pt := nav [0, 0] g46p1
def g46p4 : Pt := nav [2, 0, 0] g46p2
def g46p6 : Pt := nav [0, 0, 0] g46p4
def g46p7 : Pt := nav [0, 0, 0, 0, 0] g46p6
def g46p8 : Pt := nav [0, 0] g46p7
def g46p9 : Pt := nav [1, 0] g46p8
def g46p10 : Pt := nav [2, 0] g46p8
def g46p11 : Pt := nav [0, 0, 0, 0, 0] g46p9
def g46p12 : Pt := nav [0, 0] g46p10
def g46p13 : Pt := nav [0, 0, 0] g46p11
def g46p14 : Pt := nav [1] g46p12
def g46p15 : Pt := nav [2, 0] g46p12
def g46p16 : Pt := nav [0, 0] g46p13
def g46p17 : Pt := nav [0, 0, 0, 0] g46p14
def g46p18 : Pt := nav [0, 0] g46p15
def g46p20 : Pt := nav [2, 0, 0] g46p16
def g46p21 : Pt := nav [0, 0] g46p17
def g46p22 : Pt := nav [1, 0] g46p18
def g46p23 : Pt := nav [2, 0] g46p18
def g46p25 : Pt := nav [2, 0, 0] g46p21
def g46p26 : Pt := nav [0, 0] g46p23
def g46p27 : Pt := nav [1, 0] g46p26
def g46p28 : Pt := nav [2, 0] g46p26
def g46p29 : Pt := nav [0, 0, 0] g46p27
def g46p30 : Pt := nav [0, 0] g46p28
def g46p31 : Pt := nav [0, 0] g46p29
def g46p32 : Pt := nav [1] g46p30
def g46p33 : Pt := nav [2, 0] g46p30
def g46p35 : Pt := nav [0, 0] g46p33
def g46p36 : Pt := nav [1] g46p35
def g46p37 : Pt := nav [2, 0] g46p35
def g46p38 : Pt := nav [0, 0] g46p37
def g46p39 : Pt := nav [1] g46p38
def g46p40 : Pt := nav [2, 0] g46p38
def g46p41 : Pt := nav [0, 0] g46p40
def g46p42 : Pt := nav [1, 0] g46p41
def g46p43 : Pt := nav [2] g46p41
def g46p44 : Pt := nav [0, 0, 0, 0] g46p42
def g46p45 : Pt := nav [0, 0] g46p44
def g46p47 : Pt := nav [2, 0, 0] g46p45
def g46p48 : Pt := nav [0, 0] g46p47
def g46p49 : Pt := nav [1] g46p48
def g46_l18 (k : Nat)  (a0 : (List Nat)) (a1 : Int) (n : Nat) : Int → Option (S46 × Int) :=
 Nat.rec (motive := fun _ => Int → Option (S46 × Int)) (fun _ => none) (fun _ ih => fun (y18_0 : Int) => jn (fun (z24 : Bool × Int) => if z24.1 then (ih (fW .i64 (z24.2 + 1))) else ((subL a0 (some a1) (some z24.2)).bind fun x16_3 => (g57 k x16_3).bind fun x16_4 => some ((⟨(11 : Int), x16_4, a1⟩ : S46), (0 : Int)))) (fun j24 => if (decide (y18_0 < (a0.length : Int))) then ((nthS a0 y18_0).bind fun x15_7 => j24 (!decide (x15_7 = 10), y18_0)) else (j24 (false, y18_0)))) n
theorem g46_l18_s (k : Nat)  (a0 : (List Nat)) (a1 : Int) (n : Nat) (y18_0 : Int) : g46_l18 k a0 a1 (n + 1) y18_0 = (jn (fun (z24 : Bool × Int) => if z24.1 then ((g46_l18 k a0 a1 n) (fW .i64 (z24.2 + 1))) else ((subL a0 (some a1) (some z24.2)).bind fun x16_3 => (g57 k x16_3).bind fun x16_4 => some ((⟨(11 : Int), x16_4, a1⟩ : S46), (0 : Int)))) (fun j24 => if (decide (y18_0 < (a0.length : Int))) then ((nthS a0 y18_0).bind fun x15_7 => j24 (!decide (x15_7 = 10), y18_0)) else (j24 (false, y18_0)))) := rfl
theorem g46_l18_ok (k : Nat)  (a0 : (List Nat)) (a1 : Int)  : ∀ (n : Nat) (y18_0 : Int), Ok X46 g46p11 [(0, .str a0), (1, .int .i64 a1), (4, .ptr 0 3 0), (9, .int .i64 y18_0)] (mkH [⟨[.int .i64 0, .str [], .int .i64 0], 0, false⟩]) (g46_l18 k a0 a1 n y18_0)
 | 0, _ => ok_none
 | n + 1, y18_0 => by
  have ih := g46_l18_ok k a0 a1 n
  rw [g46_l18_s]
  refine ok_ent (p' := nav [0] g46p11) (by kernel_rfl) ?_
  let E6 : Env := [(34, .bool (decide (y18_0 < (a0.length : Int)))), (33, .bool (decide (y18_0 < (a0.length : Int)))), (32, .int .i64 (a0.length : Int)), (31, .str a0), (30, .int .i64 y18_0), (0, .str a0), (1, .int .i64 a1), (4, .ptr 0 3 0), (9, .int .i64 y18_0)]
  refine oR 8 (p' := (atN 5 (ctl1 g46p13))) (eE := E6) (H' := (mkH [⟨[.int .i64 0, .str [], .int .i64 0], 0, false⟩])) (by kernel_rfl) ?_
  refine oJ (f := fun (z24 : Bool × Int) => if z24.1 then ((g46_l18 k a0 a1 n) (fW .i64 (z24.2 + 1))) else ((subL a0 (some a1) (some z24.2)).bind fun x16_3 => (g57 k x16_3).bind fun x16_4 => some ((⟨(11 : Int), x16_4, a1⟩ : S46), (0 : Int)))) g46p16 (fun (z24 : Bool × Int) => [(0, .str a0), (1, .int .i64 a1), (4, .ptr 0 3 0), (9, .int .i64 z24.2), (39, .bool z24.1)]) (fun (z24 : Bool × Int) => (mkH [⟨[.int .i64 0, .str [], .int .i64 0], 0, false⟩])) (fun z24 => ?_) (fun j24 hj24 => ?_)
  ·refine oS 39 (b := z24.1) (by kernel_rfl) (fun hb => ?_) (fun hb => ?_)
   ·let E7 : Env := [(9, .int .i64 (fW .i64 (z24.2 + 1))), (41, .int .i64 (fW .i64 (z24.2 + 1))), (40, .int .i64 z24.2), (39, .bool true), (0, .str a0), (1, .int .i64 a1), (4, .ptr 0 3 0), (9, .int .i64 z24.2), (39, .bool z24.1)]
    refine oR 8 (p' := g46p11) (eE := E7) (H' := (mkH [⟨[.int .i64 0, .str [], .int .i64 0], 0, false⟩])) (by kernel_rfl) ?_
    refine oK [0, 1, 4, 9] (eE := [(0, .str a0), (1, .int .i64 a1), (4, .ptr 0 3 0), (9, .int .i64 (fW .i64 (z24.2 + 1)))]) (by kernel_rfl) ?_
    exact ih (fW .i64 (z24.2 + 1))
   ·let E8 : Env := [(44, .int .i64 z24.2), (43, .int .i64 a1), (42, .str a0), (39, .bool false), (0, .str a0), (1, .int .i64 a1), (4, .ptr 0 3 0), (9, .int .i64 z24.2), (39, .bool z24.1)]
    refine oR 7 (p' := (atN 3 (ctl1 g46p20))) (eE := E8) (H' := (mkH [⟨[.int .i64 0, .str [], .int .i64 0], 0, false⟩])) (by kernel_rfl) ?_
    refine oH (fun (x16_3 : (List Nat)) => (.str x16_3, (mkH [⟨[.int .i64 0, .str [], .int .i64 0], 0, false⟩]))) (atN 4 (ctl1 g46p20)) (fun x16_3 => ((45, .str x16_3) :: E8)) (subH (some a1) (some z24.2) (by kernel_rfl)) (fun _ => by kernel_rfl) (fun x16_3 hx16_3 => ?_)
    refine oC (fun (x16_4 : (List Nat)) => .str x16_4) (atN 5 (ctl1 g46p20)) (fun x16_4 => ((46, .str x16_4) :: (45, .str x16_3) :: E8)) (fi := 57) (args := [.str x16_3]) (by kernel_rfl) (by kernel_rfl) (fun _ => by kernel_rfl) (fun r h => g57_ok k x16_3 r h) (fun _ => by kernel_rfl) (fun x16_4 hx16_4 => ?_)
    let E9 : Env := ((5, .int .i64 0) :: (48, .agg [.int .i64 11, .str x16_4, .int .i64 a1]) :: (47, .int .i64 a1) :: (46, .str x16_4) :: (45, .str x16_3) :: E8)
    refine oR 6 (p' := .fin) (eE := E9) (H' := (mkH [⟨[.int .i64 11, .str x16_4, .int .i64 a1], 3, false⟩])) (by kernel_rfl) ?_
    exact oT (r := ((⟨(11 : Int), x16_4, a1⟩ : S46), (0 : Int))) (xs := [.agg [.int .i64 11, .str x16_4, .int .i64 a1], .int .i64 0]) (v := .tuple [.agg [.int .i64 11, .str x16_4, .int .i64 a1], .int .i64 0]) (by kernel_rfl) (by kernel_rfl) (by kernel_rfl) (.pures (by kernel_rfl)) (by kernel_rfl)
  ·refine oS 34 (b := decide (y18_0 < (a0.length : Int))) (by kernel_rfl) (fun hb => ?_) (fun hb => ?_)
   ·refine oR 2 (p' := (atN 7 (ctl1 g46p13))) (eE := ((36, .int .i64 y18_0) :: (35, .str a0) :: (34, .bool true) :: E6)) (H' := (mkH [⟨[.int .i64 0, .str [], .int .i64 0], 0, false⟩])) (by kernel_rfl) ?_
    refine oH (fun (x15_7 : Int) => (.int .u8 x15_7, (mkH [⟨[.int .i64 0, .str [], .int .i64 0], 0, false⟩]))) (atN 8 (ctl1 g46p13)) (fun x15_7 => ((37, .int .u8 x15_7) :: (36, .int .i64 y18_0) :: (35, .str a0) :: (34, .bool true) :: E6)) (idxH (by kernel_rfl)) (fun _ => by kernel_rfl) (fun x15_7 hx15_7 => ?_)
    let E10 : Env := ((39, .bool (!decide (x15_7 = 10))) :: (38, .bool (!decide (x15_7 = 10))) :: (37, .int .u8 x15_7) :: (36, .int .i64 y18_0) :: (35, .str a0) :: (34, .bool true) :: E6)
    refine oR 3 (p' := g46p16) (eE := E10) (H' := (mkH [⟨[.int .i64 0, .str [], .int .i64 0], 0, false⟩])) (by kernel_rfl) ?_
    refine oK [0, 1, 4, 9, 39] (eE := [(0, .str a0), (1, .int .i64 a1), (4, .ptr 0 3 0), (9, .int .i64 y18_0), (39, .bool (!decide (x15_7 = 10)))]) (by kernel_rfl) ?_
    exact hj24 (!decide (x15_7 = 10), y18_0)
   ·let E11 : Env := ((39, .bool false) :: (38, .tuple []) :: (37, .tuple []) :: (36, .tuple []) :: (35, .tuple []) :: (34, .bool false) :: E6)
    refine oR 6 (p' := g46p16) (eE := E11) (H' := (mkH [⟨[.int .i64 0, .str [], .int .i64 0], 0, false⟩])) (by kernel_rfl) ?_
    refine oK [0, 1, 4, 9, 39] (eE := [(0, .str a0), (1, .int .i64 a1), (4, .ptr 0 3 0), (9, .int .i64 y18_0), (39, .bool false)]) (by kernel_rfl) ?_
    exact hj24 (false, y18_0)
def g46 (k : Nat) (a0 : (List Nat)) (a1 : Int) : Option (S46 × Int) :=
 jn (fun (z17 : Bool) => if z17 then (some ((⟨(0 : Int), ([] : List Nat), (0 : Int)⟩ : S46), (4 : Int))) else ((nthS a0 a1).bind fun x0_2 => if (decide (x0_2 = 37)) then (g46_l18 k a0 a1 k a1) else (jn (fun (z19 : Bool) => jn (fun (z20 : Int × Int) => if (decide (z20.2 = 0)) then (some ((⟨(0 : Int), ([] : List Nat), (0 : Int)⟩ : S46), (4 : Int))) else ((subL a0 (some a1) (some (fW .i64 (a1 + z20.2)))).bind fun x14_6 => some ((⟨z20.1, x14_6, a1⟩ : S46), (0 : Int)))) (fun j20 => if z19 then (j20 (10, 1)) else ((g58 k x0_2).bind fun x2_1 => if (decide (x2_1 = 3)) then ((g59 k a0 a1).bind fun x3_2 => some ((⟨x3_2.1.f0, x3_2.1.f1, x3_2.1.f2⟩ : S46), x3_2.2)) else ((g58 k x0_2).bind fun x4_1 => if (decide (0 < x4_1)) then ((g58 k x0_2).bind fun x5_1 => (g60 k a0 a1).bind fun x5_4 => (subL a0 (some a1) (some (fW .i64 (a1 + fW .i64 (x5_4 - a1))))).bind fun x6_5 => (g61 k x6_5).bind fun x6_6 => if x6_6 then (j20 (8, fW .i64 (x5_4 - a1))) else (j20 (x5_1, fW .i64 (x5_4 - a1)))) else (if (decide (x0_2 = 39)) then ((g62 k a0 a1).bind fun x7_2 => j20 (1, x7_2)) else (if (decide (x0_2 = 34)) then ((g62 k a0 a1).bind fun x8_2 => j20 (6, x8_2)) else (if (decide (x0_2 = 36)) then ((g63 k a0 a1).bind fun x9_2 => j20 (5, x9_2)) else (if (decide (x0_2 = 63)) then (jn (fun (z21 : Bool) => jn (fun (z22 : Int) => jn (fun (z23 : Bool) => if z23 then ((g60 k a0 z22).bind fun x13_2 => j20 (7, fW .i64 (x13_2 - a1))) else (j20 (0, 0))) (fun j23 => if (decide (z22 < (a0.length : Int))) then ((nthS a0 z22).bind fun x12_7 => (g64 k x12_7).bind fun x12_8 => if x12_8 then (j23 true) else ((nthS a0 z22).bind fun x12_12 => j23 (decide (x12_12 = 95)))) else (j23 false))) (fun j22 => if z21 then (j22 (fW .i64 (fW .i64 (a1 + 1) + 1))) else (j22 (fW .i64 (a1 + 1))))) (fun j21 => if (decide (fW .i64 (a1 + 1) < (a0.length : Int))) then ((nthS a0 (fW .i64 (a1 + 1))).bind fun x10_7 => j21 (decide (x10_7 = 63))) else (j21 false))) else ((g65 k a0 a1).bind fun x11_2 => j20 (9, x11_2)))))))))) (fun j19 => if (decide (x0_2 = 46)) then (if (decide (fW .i64 (a1 + 1) = (a0.length : Int))) then (j19 true) else ((nthS a0 (fW .i64 (a1 + 1))).bind fun x1_12 => if (decide (x1_12 = 37)) then (j19 true) else ((g45 k a0 (fW .i64 (a1 + 1))).bind fun x1_19 => j19 (decide (fW .i64 (a1 + 1) < x1_19))))) else (j19 false))))) (fun j17 => if (decide (a1 < 0)) then (j17 true) else (j17 (decide ((a0.length : Int) ≤ a1))))
theorem g46_ok (k : Nat) (a0 : (List Nat)) (a1 : Int) (r : (S46 × Int)) (h : g46 k a0 a1 = some r) : PureOk Try.prog 46 [.str a0, .int .i64 a1] (.tuple [.agg [.int .i64 r.1.f0, .str r.1.f1, .int .i64 r.1.f2], .int .i64 r.2]) := by
 refine pure_of X46 (fun _ => rfl) Try.func46 (by decide +kernel) (by kernel_rfl) (t := g46 k a0 a1) ?_ h
 unfold g46
 refine oE (eE := [(0, .str a0), (1, .int .i64 a1)]) (by kernel_rfl) ?_
 let E1 : Env := [(13, .bool (decide (a1 < 0))), (12, .bool (decide (a1 < 0))), (11, .int .i64 a1), (5, .int .i64 0), (4, .ptr 0 3 0), (0, .str a0), (1, .int .i64 a1)]
 refine oR 11 (p' := (atN 3 (ctl1 g46p1))) (eE := E1) (H' := (mkH [⟨[.int .i64 0, .str [], .int .i64 0], 0, false⟩])) (by kernel_rfl) ?_
 refine oJ (f := fun (z17 : Bool) => if z17 then (some ((⟨(0 : Int), ([] : List Nat), (0 : Int)⟩ : S46), (4 : Int))) else ((nthS a0 a1).bind fun x0_2 => if (decide (x0_2 = 37)) then (g46_l18 k a0 a1 k a1) else (jn (fun (z19 : Bool) => jn (fun (z20 : Int × Int) => if (decide (z20.2 = 0)) then (some ((⟨(0 : Int), ([] : List Nat), (0 : Int)⟩ : S46), (4 : Int))) else ((subL a0 (some a1) (some (fW .i64 (a1 + z20.2)))).bind fun x14_6 => some ((⟨z20.1, x14_6, a1⟩ : S46), (0 : Int)))) (fun j20 => if z19 then (j20 (10, 1)) else ((g58 k x0_2).bind fun x2_1 => if (decide (x2_1 = 3)) then ((g59 k a0 a1).bind fun x3_2 => some ((⟨x3_2.1.f0, x3_2.1.f1, x3_2.1.f2⟩ : S46), x3_2.2)) else ((g58 k x0_2).bind fun x4_1 => if (decide (0 < x4_1)) then ((g58 k x0_2).bind fun x5_1 => (g60 k a0 a1).bind fun x5_4 => (subL a0 (some a1) (some (fW .i64 (a1 + fW .i64 (x5_4 - a1))))).bind fun x6_5 => (g61 k x6_5).bind fun x6_6 => if x6_6 then (j20 (8, fW .i64 (x5_4 - a1))) else (j20 (x5_1, fW .i64 (x5_4 - a1)))) else (if (decide (x0_2 = 39)) then ((g62 k a0 a1).bind fun x7_2 => j20 (1, x7_2)) else (if (decide (x0_2 = 34)) then ((g62 k a0 a1).bind fun x8_2 => j20 (6, x8_2)) else (if (decide (x0_2 = 36)) then ((g63 k a0 a1).bind fun x9_2 => j20 (5, x9_2)) else (if (decide (x0_2 = 63)) then (jn (fun (z21 : Bool) => jn (fun (z22 : Int) => jn (fun (z23 : Bool) => if z23 then ((g60 k a0 z22).bind fun x13_2 => j20 (7, fW .i64 (x13_2 - a1))) else (j20 (0, 0))) (fun j23 => if (decide (z22 < (a0.length : Int))) then ((nthS a0 z22).bind fun x12_7 => (g64 k x12_7).bind fun x12_8 => if x12_8 then (j23 true) else ((nthS a0 z22).bind fun x12_12 => j23 (decide (x12_12 = 95)))) else (j23 false))) (fun j22 => if z21 then (j22 (fW .i64 (fW .i64 (a1 + 1) + 1))) else (j22 (fW .i64 (a1 + 1))))) (fun j21 => if (decide (fW .i64 (a1 + 1) < (a0.length : Int))) then ((nthS a0 (fW .i64 (a1 + 1))).bind fun x10_7 => j21 (decide (x10_7 = 63))) else (j21 false))) else ((g65 k a0 a1).bind fun x11_2 => j20 (9, x11_2)))))))))) (fun j19 => if (decide (x0_2 = 46)) then (if (decide (fW .i64 (a1 + 1) = (a0.length : Int))) then (j19 true) else ((nthS a0 (fW .i64 (a1 + 1))).bind fun x1_12 => if (decide (x1_12 = 37)) then (j19 true) else ((g45 k a0 (fW .i64 (a1 + 1))).bind fun x1_19 => j19 (decide (fW .i64 (a1 + 1) < x1_19))))) else (j19 false))))) g46p2 (fun (z17 : Bool) => [(0, .str a0), (1, .int .i64 a1), (4, .ptr 0 3 0), (18, .bool z17)]) (fun (z17 : Bool) => (mkH [⟨[.int .i64 0, .str [], .int .i64 0], 0, false⟩])) (fun z17 => ?_) (fun j17 hj17 => ?_)
 ·refine oS 18 (b := z17) (by kernel_rfl) (fun hb => ?_) (fun hb => ?_)
  ·let E2 : Env := [(5, .int .i64 4), (19, .agg [.int .i64 0, .str [], .int .i64 0]), (18, .bool true), (0, .str a0), (1, .int .i64 a1), (4, .ptr 0 3 0), (18, .bool z17)]
   refine oR 8 (p' := .fin) (eE := E2) (H' := (mkH [⟨[.int .i64 0, .str [], .int .i64 0], 3, false⟩])) (by kernel_rfl) ?_
   exact oT (r := ((⟨(0 : Int), ([] : List Nat), (0 : Int)⟩ : S46), (4 : Int))) (xs := [.agg [.int .i64 0, .str [], .int .i64 0], .int .i64 4]) (v := .tuple [.agg [.int .i64 0, .str [], .int .i64 0], .int .i64 4]) (by kernel_rfl) (by kernel_rfl) (by kernel_rfl) (.pures (by kernel_rfl)) (by kernel_rfl)
  ·let E3 : Env := [(21, .int .i64 a1), (20, .str a0), (18, .bool false), (0, .str a0), (1, .int .i64 a1), (4, .ptr 0 3 0), (18, .bool z17)]
   refine oR 6 (p' := (atN 2 (ctl1 g46p4))) (eE := E3) (H' := (mkH [⟨[.int .i64 0, .str [], .int .i64 0], 0, false⟩])) (by kernel_rfl) ?_
   refine oH (fun (x0_2 : Int) => (.int .u8 x0_2, (mkH [⟨[.int .i64 0, .str [], .int .i64 0], 0, false⟩]))) (atN 3 (ctl1 g46p4)) (fun x0_2 => ((22, .int .u8 x0_2) :: E3)) (idxH (by kernel_rfl)) (fun _ => by kernel_rfl) (fun x0_2 hx0_2 => ?_)
   let E4 : Env := ((26, .bool (decide (x0_2 = 37))) :: (28, .bool (decide (x0_2 = 37))) :: (27, .int .u8 x0_2) :: (8, .int .i64 0) :: (7, .int .i64 0) :: (6, .int .u8 x0_2) :: (22, .int .u8 x0_2) :: E3)
   refine oR 15 (p' := g46p8) (eE := E4) (H' := (mkH [⟨[.int .i64 0, .str [], .int .i64 0], 0, false⟩])) (by kernel_rfl) ?_
   refine oK [0, 1, 4, 6, 7, 8, 26] (eE := [(0, .str a0), (1, .int .i64 a1), (4, .ptr 0 3 0), (6, .int .u8 x0_2), (7, .int .i64 0), (8, .int .i64 0), (26, .bool (decide (x0_2 = 37)))]) (by kernel_rfl) ?_
   refine oS 26 (b := decide (x0_2 = 37)) (by kernel_rfl) (fun hb => ?_) (fun hb => ?_)
   ·let E5 : Env := [(9, .int .i64 a1), (29, .int .i64 a1), (26, .bool true), (0, .str a0), (1, .int .i64 a1), (4, .ptr 0 3 0), (6, .int .u8 x0_2), (7, .int .i64 0), (8, .int .i64 0), (26, .bool (decide (x0_2 = 37)))]
    refine oR 9 (p' := g46p11) (eE := E5) (H' := (mkH [⟨[.int .i64 0, .str [], .int .i64 0], 0, false⟩])) (by kernel_rfl) ?_
    refine oK [0, 1, 4, 9] (eE := [(0, .str a0), (1, .int .i64 a1), (4, .ptr 0 3 0), (9, .int .i64 a1)]) (by kernel_rfl) ?_
    exact (g46_l18_ok k a0 a1 k) a1
   ·let E12 : Env := [(52, .bool (decide (x0_2 = 46))), (51, .bool (decide (x0_2 = 46))), (50, .int .u8 x0_2), (26, .bool false), (0, .str a0), (1, .int .i64 a1), (4, .ptr 0 3 0), (6, .int .u8 x0_2), (7, .int .i64 0), (8, .int .i64 0), (26, .bool (decide (x0_2 = 37)))]
    refine oR 6 (p' := (atN 3 (ctl1 g46p10))) (eE := E12) (H' := (mkH [⟨[.int .i64 0, .str [], .int .i64 0], 0, false⟩])) (by kernel_rfl) ?_
    refine oJ (f := fun (z19 : Bool) => jn (fun (z20 : Int × Int) => if (decide (z20.2 = 0)) then (some ((⟨(0 : Int), ([] : List Nat), (0 : Int)⟩ : S46), (4 : Int))) else ((subL a0 (some a1) (some (fW .i64 (a1 + z20.2)))).bind fun x14_6 => some ((⟨z20.1, x14_6, a1⟩ : S46), (0 : Int)))) (fun j20 => if z19 then (j20 (10, 1)) else ((g58 k x0_2).bind fun x2_1 => if (decide (x2_1 = 3)) then ((g59 k a0 a1).bind fun x3_2 => some ((⟨x3_2.1.f0, x3_2.1.f1, x3_2.1.f2⟩ : S46), x3_2.2)) else ((g58 k x0_2).bind fun x4_1 => if (decide (0 < x4_1)) then ((g58 k x0_2).bind fun x5_1 => (g60 k a0 a1).bind fun x5_4 => (subL a0 (some a1) (some (fW .i64 (a1 + fW .i64 (x5_4 - a1))))).bind fun x6_5 => (g61 k x6_5).bind fun x6_6 => if x6_6 then (j20 (8, fW .i64 (x5_4 - a1))) else (j20 (x5_1, fW .i64 (x5_4 - a1)))) else (if (decide (x0_2 = 39)) then ((g62 k a0 a1).bind fun x7_2 => j20 (1, x7_2)) else (if (decide (x0_2 = 34)) then ((g62 k a0 a1).bind fun x8_2 => j20 (6, x8_2)) else (if (decide (x0_2 = 36)) then ((g63 k a0 a1).bind fun x9_2 => j20 (5, x9_2)) else (if (decide (x0_2 = 63)) then (jn (fun (z21 : Bool) => jn (fun (z22 : Int) => jn (fun (z23 : Bool) => if z23 then ((g60 k a0 z22).bind fun x13_2 => j20 (7, fW .i64 (x13_2 - a1))) else (j20 (0, 0))) (fun j23 => if (decide (z22 < (a0.length : Int))) then ((nthS a0 z22).bind fun x12_7 => (g64 k x12_7).bind fun x12_8 => if x12_8 then (j23 true) else ((nthS a0 z22).bind fun x12_12 => j23 (decide (x12_12 = 95)))) else (j23 false))) (fun j22 => if z21 then (j22 (fW .i64 (fW .i64 (a1 + 1) + 1))) else (j22 (fW .i64 (a1 + 1))))) (fun j21 => if (decide (fW .i64 (a1 + 1) < (a0.length : Int))) then ((nthS a0 (fW .i64 (a1 + 1))).bind fun x10_7 => j21 (decide (x10_7 = 63))) else (j21 false))) else ((g65 k a0 a1).bind fun x11_2 => j20 (9, x11_2)))))))))) g46p12 (fun (z19 : Bool) => [(0, .str a0), (1, .int .i64 a1), (4, .ptr 0 3 0), (6, .int .u8 x0_2), (7, .int .i64 0), (8, .int .i64 0), (49, .bool z19)]) (fun (z19 : Bool) => (mkH [⟨[.int .i64 0, .str [], .int .i64 0], 0, false⟩])) (fun z19 => ?_) (fun j19 hj19 => ?_)
    ·refine oJ (f := fun (z20 : Int × Int) => if (decide (z20.2 = 0)) then (some ((⟨(0 : Int), ([] : List Nat), (0 : Int)⟩ : S46), (4 : Int))) else ((subL a0 (some a1) (some (fW .i64 (a1 + z20.2)))).bind fun x14_6 => some ((⟨z20.1, x14_6, a1⟩ : S46), (0 : Int)))) g46p17 (fun (z20 : Int × Int) => [(0, .str a0), (1, .int .i64 a1), (4, .ptr 0 3 0), (7, .int .i64 z20.1), (8, .int .i64 z20.2)]) (fun (z20 : Int × Int) => (mkH [⟨[.int .i64 0, .str [], .int .i64 0], 0, false⟩])) (fun z20 => ?_) (fun j20 hj20 => ?_)
     ·let E13 : Env := [(159, .bool (decide (z20.2 = 0))), (158, .int .i64 z20.2), (0, .str a0), (1, .int .i64 a1), (4, .ptr 0 3 0), (7, .int .i64 z20.1), (8, .int .i64 z20.2)]
      refine oR 4 (p' := g46p21) (eE := E13) (H' := (mkH [⟨[.int .i64 0, .str [], .int .i64 0], 0, false⟩])) (by kernel_rfl) ?_
      refine oS 159 (b := decide (z20.2 = 0)) (by kernel_rfl) (fun hb => ?_) (fun hb => ?_)
      ·refine oR 8 (p' := .fin) (eE := ((5, .int .i64 4) :: (160, .agg [.int .i64 0, .str [], .int .i64 0]) :: (159, .bool true) :: E13)) (H' := (mkH [⟨[.int .i64 0, .str [], .int .i64 0], 3, false⟩])) (by kernel_rfl) ?_
       exact oT (r := ((⟨(0 : Int), ([] : List Nat), (0 : Int)⟩ : S46), (4 : Int))) (xs := [.agg [.int .i64 0, .str [], .int .i64 0], .int .i64 4]) (v := .tuple [.agg [.int .i64 0, .str [], .int .i64 0], .int .i64 4]) (by kernel_rfl) (by kernel_rfl) (by kernel_rfl) (.pures (by kernel_rfl)) (by kernel_rfl)
      ·let E14 : Env := ((166, .int .i64 (fW .i64 (a1 + z20.2))) :: (165, .int .i64 z20.2) :: (164, .int .i64 a1) :: (163, .int .i64 a1) :: (162, .str a0) :: (161, .int .i64 z20.1) :: (159, .bool false) :: E13)
       refine oR 10 (p' := (atN 6 (ctl1 g46p25))) (eE := E14) (H' := (mkH [⟨[.int .i64 0, .str [], .int .i64 0], 0, false⟩])) (by kernel_rfl) ?_
       refine oH (fun (x14_6 : (List Nat)) => (.str x14_6, (mkH [⟨[.int .i64 0, .str [], .int .i64 0], 0, false⟩]))) (atN 7 (ctl1 g46p25)) (fun x14_6 => ((167, .str x14_6) :: E14)) (subH (some a1) (some (fW .i64 (a1 + z20.2))) (by kernel_rfl)) (fun _ => by kernel_rfl) (fun x14_6 hx14_6 => ?_)
       refine oR 6 (p' := .fin) (eE := ((5, .int .i64 0) :: (169, .agg [.int .i64 z20.1, .str x14_6, .int .i64 a1]) :: (168, .int .i64 a1) :: (167, .str x14_6) :: E14)) (H' := (mkH [⟨[.int .i64 z20.1, .str x14_6, .int .i64 a1], 3, false⟩])) (by kernel_rfl) ?_
       exact oT (r := ((⟨z20.1, x14_6, a1⟩ : S46), (0 : Int))) (xs := [.agg [.int .i64 z20.1, .str x14_6, .int .i64 a1], .int .i64 0]) (v := .tuple [.agg [.int .i64 z20.1, .str x14_6, .int .i64 a1], .int .i64 0]) (by kernel_rfl) (by kernel_rfl) (by kernel_rfl) (.pures (by kernel_rfl)) (by kernel_rfl)
     ·refine oS 49 (b := z19) (by kernel_rfl) (fun hb => ?_) (fun hb => ?_)
      ·let E15 : Env := [(8, .int .i64 1), (7, .int .i64 10), (49, .bool true), (0, .str a0), (1, .int .i64 a1), (4, .ptr 0 3 0), (6, .int .u8 x0_2), (7, .int .i64 0), (8, .int .i64 0), (49, .bool z19)]
       refine oR 7 (p' := g46p17) (eE := E15) (H' := (mkH [⟨[.int .i64 0, .str [], .int .i64 0], 0, false⟩])) (by kernel_rfl) ?_
       refine oK [0, 1, 4, 7, 8] (eE := [(0, .str a0), (1, .int .i64 a1), (4, .ptr 0 3 0), (7, .int .i64 10), (8, .int .i64 1)]) (by kernel_rfl) ?_
       exact hj20 (10, 1)
      ·let E16 : Env := [(76, .int .u8 x0_2), (49, .bool false), (0, .str a0), (1, .int .i64 a1), (4, .ptr 0 3 0), (6, .int .u8 x0_2), (7, .int .i64 0), (8, .int .i64 0), (49, .bool z19)]
       refine oR 4 (p' := (atN 1 (ctl1 g46p15))) (eE := E16) (H' := (mkH [⟨[.int .i64 0, .str [], .int .i64 0], 0, false⟩])) (by kernel_rfl) ?_
       refine oC (fun (x2_1 : Int) => .int .i64 x2_1) (atN 2 (ctl1 g46p15)) (fun x2_1 => ((77, .int .i64 x2_1) :: E16)) (fi := 58) (args := [.int .u8 x0_2]) (by kernel_rfl) (by kernel_rfl) (fun _ => by kernel_rfl) (fun r h => g58_ok k x0_2 r h) (fun _ => by kernel_rfl) (fun x2_1 hx2_1 => ?_)
       refine oR 3 (p' := g46p18) (eE := ((75, .bool (decide (x2_1 = 3))) :: (78, .bool (decide (x2_1 = 3))) :: (77, .int .i64 x2_1) :: E16)) (H' := (mkH [⟨[.int .i64 0, .str [], .int .i64 0], 0, false⟩])) (by kernel_rfl) ?_
       refine oS 75 (b := decide (x2_1 = 3)) (by kernel_rfl) (fun hb => ?_) (fun hb => ?_)
       ·let E17 : Env := ((80, .int .i64 a1) :: (79, .str a0) :: (75, .bool true) :: (75, .bool (decide (x2_1 = 3))) :: (78, .bool (decide (x2_1 = 3))) :: (77, .int .i64 x2_1) :: E16)
        refine oR 5 (p' := (atN 2 (ctl1 g46p22))) (eE := E17) (H' := (mkH [⟨[.int .i64 0, .str [], .int .i64 0], 0, false⟩])) (by kernel_rfl) ?_
        refine oC (fun (x3_2 : (S46 × Int)) => .tuple [.agg [.int .i64 x3_2.1.f0, .str x3_2.1.f1, .int .i64 x3_2.1.f2], .int .i64 x3_2.2]) (atN 3 (ctl1 g46p22)) (fun x3_2 => ((81, .tuple [.agg [.int .i64 x3_2.1.f0, .str x3_2.1.f1, .int .i64 x3_2.1.f2], .int .i64 x3_2.2]) :: E17)) (fi := 59) (args := [.str a0, .int .i64 a1]) (by kernel_rfl) (by kernel_rfl) (fun _ => by kernel_rfl) (fun r h => g59_ok k a0 a1 r h) (fun _ => by kernel_rfl) (fun x3_2 hx3_2 => ?_)
        refine oR 6 (p' := .fin) (eE := ((5, .int .i64 x3_2.2) :: (83, .int .i64 x3_2.2) :: (82, .agg [.int .i64 x3_2.1.f0, .str x3_2.1.f1, .int .i64 x3_2.1.f2]) :: (81, .tuple [.agg [.int .i64 x3_2.1.f0, .str x3_2.1.f1, .int .i64 x3_2.1.f2], .int .i64 x3_2.2]) :: E17)) (H' := (mkH [⟨[.int .i64 x3_2.1.f0, .str x3_2.1.f1, .int .i64 x3_2.1.f2], 3, false⟩])) (by kernel_rfl) ?_
        exact oT (r := ((⟨x3_2.1.f0, x3_2.1.f1, x3_2.1.f2⟩ : S46), x3_2.2)) (xs := [.agg [.int .i64 x3_2.1.f0, .str x3_2.1.f1, .int .i64 x3_2.1.f2], .int .i64 x3_2.2]) (v := .tuple [.agg [.int .i64 x3_2.1.f0, .str x3_2.1.f1, .int .i64 x3_2.1.f2], .int .i64 x3_2.2]) (by kernel_rfl) (by kernel_rfl) (by kernel_rfl) (.pures (by kernel_rfl)) (by kernel_rfl)
       ·let E18 : Env := ((85, .int .u8 x0_2) :: (75, .bool false) :: (75, .bool (decide (x2_1 = 3))) :: (78, .bool (decide (x2_1 = 3))) :: (77, .int .i64 x2_1) :: E16)
        refine oR 4 (p' := (atN 1 (ctl1 g46p23))) (eE := E18) (H' := (mkH [⟨[.int .i64 0, .str [], .int .i64 0], 0, false⟩])) (by kernel_rfl) ?_
        refine oC (fun (x4_1 : Int) => .int .i64 x4_1) (atN 2 (ctl1 g46p23)) (fun x4_1 => ((86, .int .i64 x4_1) :: E18)) (fi := 58) (args := [.int .u8 x0_2]) (by kernel_rfl) (by kernel_rfl) (fun _ => by kernel_rfl) (fun r h => g58_ok k x0_2 r h) (fun _ => by kernel_rfl) (fun x4_1 hx4_1 => ?_)
        refine oR 3 (p' := g46p26) (eE := ((84, .bool (decide (0 < x4_1))) :: (87, .bool (decide (0 < x4_1))) :: (86, .int .i64 x4_1) :: E18)) (H' := (mkH [⟨[.int .i64 0, .str [], .int .i64 0], 0, false⟩])) (by kernel_rfl) ?_
        refine oK [0, 1, 4, 6, 7, 8, 84] (eE := [(0, .str a0), (1, .int .i64 a1), (4, .ptr 0 3 0), (6, .int .u8 x0_2), (7, .int .i64 0), (8, .int .i64 0), (84, .bool (decide (0 < x4_1)))]) (by kernel_rfl) ?_
        refine oS 84 (b := decide (0 < x4_1)) (by kernel_rfl) (fun hb => ?_) (fun hb => ?_)
        ·let E19 : Env := [(88, .int .u8 x0_2), (84, .bool true), (0, .str a0), (1, .int .i64 a1), (4, .ptr 0 3 0), (6, .int .u8 x0_2), (7, .int .i64 0), (8, .int .i64 0), (84, .bool (decide (0 < x4_1)))]
         refine oR 4 (p' := (atN 1 (ctl1 g46p27))) (eE := E19) (H' := (mkH [⟨[.int .i64 0, .str [], .int .i64 0], 0, false⟩])) (by kernel_rfl) ?_
         refine oC (fun (x5_1 : Int) => .int .i64 x5_1) (atN 2 (ctl1 g46p27)) (fun x5_1 => ((89, .int .i64 x5_1) :: E19)) (fi := 58) (args := [.int .u8 x0_2]) (by kernel_rfl) (by kernel_rfl) (fun _ => by kernel_rfl) (fun r h => g58_ok k x0_2 r h) (fun _ => by kernel_rfl) (fun x5_1 hx5_1 => ?_)
         refine oR 2 (p' := (atN 4 (ctl1 g46p27))) (eE := ((91, .int .i64 a1) :: (90, .str a0) :: (89, .int .i64 x5_1) :: E19)) (H' := (mkH [⟨[.int .i64 0, .str [], .int .i64 0], 0, false⟩])) (by kernel_rfl) ?_
         refine oC (fun (x5_4 : Int) => .int .i64 x5_4) (atN 5 (ctl1 g46p27)) (fun x5_4 => ((92, .int .i64 x5_4) :: (91, .int .i64 a1) :: (90, .str a0) :: (89, .int .i64 x5_1) :: E19)) (fi := 60) (args := [.str a0, .int .i64 a1]) (by kernel_rfl) (by kernel_rfl) (fun _ => by kernel_rfl) (fun r h => g60_ok k a0 a1 r h) (fun _ => by kernel_rfl) (fun x5_4 hx5_4 => ?_)
         let E20 : Env := ((8, .int .i64 (fW .i64 (x5_4 - a1))) :: (7, .int .i64 x5_1) :: (94, .int .i64 (fW .i64 (x5_4 - a1))) :: (93, .int .i64 a1) :: (92, .int .i64 x5_4) :: (91, .int .i64 a1) :: (90, .str a0) :: (89, .int .i64 x5_1) :: E19)
         refine oR 6 (p' := g46p29) (eE := E20) (H' := (mkH [⟨[.int .i64 0, .str [], .int .i64 0], 0, false⟩])) (by kernel_rfl) ?_
         refine oK [0, 1, 4, 7, 8] (eE := [(0, .str a0), (1, .int .i64 a1), (4, .ptr 0 3 0), (7, .int .i64 x5_1), (8, .int .i64 (fW .i64 (x5_4 - a1)))]) (by kernel_rfl) ?_
         let E21 : Env := [(99, .int .i64 (fW .i64 (a1 + fW .i64 (x5_4 - a1)))), (98, .int .i64 (fW .i64 (x5_4 - a1))), (97, .int .i64 a1), (96, .int .i64 a1), (95, .str a0), (0, .str a0), (1, .int .i64 a1), (4, .ptr 0 3 0), (7, .int .i64 x5_1), (8, .int .i64 (fW .i64 (x5_4 - a1)))]
         refine oR 6 (p' := (atN 5 (ctl1 g46p29))) (eE := E21) (H' := (mkH [⟨[.int .i64 0, .str [], .int .i64 0], 0, false⟩])) (by kernel_rfl) ?_
         refine oH (fun (x6_5 : (List Nat)) => (.str x6_5, (mkH [⟨[.int .i64 0, .str [], .int .i64 0], 0, false⟩]))) (atN 6 (ctl1 g46p29)) (fun x6_5 => ((100, .str x6_5) :: E21)) (subH (some a1) (some (fW .i64 (a1 + fW .i64 (x5_4 - a1)))) (by kernel_rfl)) (fun _ => by kernel_rfl) (fun x6_5 hx6_5 => ?_)
         refine oC (fun (x6_6 : Bool) => .bool x6_6) (atN 7 (ctl1 g46p29)) (fun x6_6 => ((101, .bool x6_6) :: (100, .str x6_5) :: E21)) (fi := 61) (args := [.str x6_5]) (by kernel_rfl) (by kernel_rfl) (fun _ => by kernel_rfl) (fun r h => g61_ok k x6_5 r h) (fun _ => by kernel_rfl) (fun x6_6 hx6_6 => ?_)
         refine oR 1 (p' := g46p31) (eE := ((101, .bool x6_6) :: (100, .str x6_5) :: E21)) (H' := (mkH [⟨[.int .i64 0, .str [], .int .i64 0], 0, false⟩])) (by kernel_rfl) ?_
         refine oS 101 (b := x6_6) (by kernel_rfl) (fun hb => ?_) (fun hb => ?_)
         ·refine oR 6 (p' := g46p17) (eE := ((7, .int .i64 8) :: (101, .bool true) :: (101, .bool x6_6) :: (100, .str x6_5) :: E21)) (H' := (mkH [⟨[.int .i64 0, .str [], .int .i64 0], 0, false⟩])) (by kernel_rfl) ?_
          refine oK [0, 1, 4, 7, 8] (eE := [(0, .str a0), (1, .int .i64 a1), (4, .ptr 0 3 0), (7, .int .i64 8), (8, .int .i64 (fW .i64 (x5_4 - a1)))]) (by kernel_rfl) ?_
          exact hj20 (8, fW .i64 (x5_4 - a1))
         ·refine oR 4 (p' := g46p17) (eE := ((101, .bool false) :: (101, .bool x6_6) :: (100, .str x6_5) :: E21)) (H' := (mkH [⟨[.int .i64 0, .str [], .int .i64 0], 0, false⟩])) (by kernel_rfl) ?_
          refine oK [0, 1, 4, 7, 8] (eE := [(0, .str a0), (1, .int .i64 a1), (4, .ptr 0 3 0), (7, .int .i64 x5_1), (8, .int .i64 (fW .i64 (x5_4 - a1)))]) (by kernel_rfl) ?_
          exact hj20 (x5_1, fW .i64 (x5_4 - a1))
        ·let E22 : Env := [(102, .bool (decide (x0_2 = 39))), (104, .bool (decide (x0_2 = 39))), (103, .int .u8 x0_2), (84, .bool false), (0, .str a0), (1, .int .i64 a1), (4, .ptr 0 3 0), (6, .int .u8 x0_2), (7, .int .i64 0), (8, .int .i64 0), (84, .bool (decide (0 < x4_1)))]
         refine oR 7 (p' := g46p30) (eE := E22) (H' := (mkH [⟨[.int .i64 0, .str [], .int .i64 0], 0, false⟩])) (by kernel_rfl) ?_
         refine oS 102 (b := decide (x0_2 = 39)) (by kernel_rfl) (fun hb => ?_) (fun hb => ?_)
         ·refine oR 4 (p' := (atN 2 (ctl1 g46p32))) (eE := ((106, .int .i64 a1) :: (105, .str a0) :: (102, .bool true) :: E22)) (H' := (mkH [⟨[.int .i64 0, .str [], .int .i64 0], 0, false⟩])) (by kernel_rfl) ?_
          refine oC (fun (x7_2 : Int) => .int .i64 x7_2) (atN 3 (ctl1 g46p32)) (fun x7_2 => ((107, .int .i64 x7_2) :: (106, .int .i64 a1) :: (105, .str a0) :: (102, .bool true) :: E22)) (fi := 62) (args := [.str a0, .int .i64 a1]) (by kernel_rfl) (by kernel_rfl) (fun _ => by kernel_rfl) (fun r h => g62_ok k a0 a1 r h) (fun _ => by kernel_rfl) (fun x7_2 hx7_2 => ?_)
          let E23 : Env := ((8, .int .i64 x7_2) :: (7, .int .i64 1) :: (107, .int .i64 x7_2) :: (106, .int .i64 a1) :: (105, .str a0) :: (102, .bool true) :: E22)
          refine oR 5 (p' := g46p17) (eE := E23) (H' := (mkH [⟨[.int .i64 0, .str [], .int .i64 0], 0, false⟩])) (by kernel_rfl) ?_
          refine oK [0, 1, 4, 7, 8] (eE := [(0, .str a0), (1, .int .i64 a1), (4, .ptr 0 3 0), (7, .int .i64 1), (8, .int .i64 x7_2)]) (by kernel_rfl) ?_
          exact hj20 (1, x7_2)
         ·refine oR 7 (p' := g46p35) (eE := ((108, .bool (decide (x0_2 = 34))) :: (110, .bool (decide (x0_2 = 34))) :: (109, .int .u8 x0_2) :: (102, .bool false) :: E22)) (H' := (mkH [⟨[.int .i64 0, .str [], .int .i64 0], 0, false⟩])) (by kernel_rfl) ?_
          refine oK [0, 1, 4, 6, 7, 8, 108] (eE := [(0, .str a0), (1, .int .i64 a1), (4, .ptr 0 3 0), (6, .int .u8 x0_2), (7, .int .i64 0), (8, .int .i64 0), (108, .bool (decide (x0_2 = 34)))]) (by kernel_rfl) ?_
          refine oS 108 (b := decide (x0_2 = 34)) (by kernel_rfl) (fun hb => ?_) (fun hb => ?_)
          ·let E24 : Env := [(112, .int .i64 a1), (111, .str a0), (108, .bool true), (0, .str a0), (1, .int .i64 a1), (4, .ptr 0 3 0), (6, .int .u8 x0_2), (7, .int .i64 0), (8, .int .i64 0), (108, .bool (decide (x0_2 = 34)))]
           refine oR 4 (p' := (atN 2 (ctl1 g46p36))) (eE := E24) (H' := (mkH [⟨[.int .i64 0, .str [], .int .i64 0], 0, false⟩])) (by kernel_rfl) ?_
           refine oC (fun (x8_2 : Int) => .int .i64 x8_2) (atN 3 (ctl1 g46p36)) (fun x8_2 => ((113, .int .i64 x8_2) :: E24)) (fi := 62) (args := [.str a0, .int .i64 a1]) (by kernel_rfl) (by kernel_rfl) (fun _ => by kernel_rfl) (fun r h => g62_ok k a0 a1 r h) (fun _ => by kernel_rfl) (fun x8_2 hx8_2 => ?_)
           refine oR 5 (p' := g46p17) (eE := ((8, .int .i64 x8_2) :: (7, .int .i64 6) :: (113, .int .i64 x8_2) :: E24)) (H' := (mkH [⟨[.int .i64 0, .str [], .int .i64 0], 0, false⟩])) (by kernel_rfl) ?_
           refine oK [0, 1, 4, 7, 8] (eE := [(0, .str a0), (1, .int .i64 a1), (4, .ptr 0 3 0), (7, .int .i64 6), (8, .int .i64 x8_2)]) (by kernel_rfl) ?_
           exact hj20 (6, x8_2)
          ·let E25 : Env := [(114, .bool (decide (x0_2 = 36))), (116, .bool (decide (x0_2 = 36))), (115, .int .u8 x0_2), (108, .bool false), (0, .str a0), (1, .int .i64 a1), (4, .ptr 0 3 0), (6, .int .u8 x0_2), (7, .int .i64 0), (8, .int .i64 0), (108, .bool (decide (x0_2 = 34)))]
           refine oR 7 (p' := g46p38) (eE := E25) (H' := (mkH [⟨[.int .i64 0, .str [], .int .i64 0], 0, false⟩])) (by kernel_rfl) ?_
           refine oS 114 (b := decide (x0_2 = 36)) (by kernel_rfl) (fun hb => ?_) (fun hb => ?_)
           ·refine oR 4 (p' := (atN 2 (ctl1 g46p39))) (eE := ((118, .int .i64 a1) :: (117, .str a0) :: (114, .bool true) :: E25)) (H' := (mkH [⟨[.int .i64 0, .str [], .int .i64 0], 0, false⟩])) (by kernel_rfl) ?_
            refine oC (fun (x9_2 : Int) => .int .i64 x9_2) (atN 3 (ctl1 g46p39)) (fun x9_2 => ((119, .int .i64 x9_2) :: (118, .int .i64 a1) :: (117, .str a0) :: (114, .bool true) :: E25)) (fi := 63) (args := [.str a0, .int .i64 a1]) (by kernel_rfl) (by kernel_rfl) (fun _ => by kernel_rfl) (fun r h => g63_ok k a0 a1 r h) (fun _ => by kernel_rfl) (fun x9_2 hx9_2 => ?_)
            let E26 : Env := ((8, .int .i64 x9_2) :: (7, .int .i64 5) :: (119, .int .i64 x9_2) :: (118, .int .i64 a1) :: (117, .str a0) :: (114, .bool true) :: E25)
            refine oR 5 (p' := g46p17) (eE := E26) (H' := (mkH [⟨[.int .i64 0, .str [], .int .i64 0], 0, false⟩])) (by kernel_rfl) ?_
            refine oK [0, 1, 4, 7, 8] (eE := [(0, .str a0), (1, .int .i64 a1), (4, .ptr 0 3 0), (7, .int .i64 5), (8, .int .i64 x9_2)]) (by kernel_rfl) ?_
            exact hj20 (5, x9_2)
           ·refine oR 7 (p' := g46p41) (eE := ((120, .bool (decide (x0_2 = 63))) :: (122, .bool (decide (x0_2 = 63))) :: (121, .int .u8 x0_2) :: (114, .bool false) :: E25)) (H' := (mkH [⟨[.int .i64 0, .str [], .int .i64 0], 0, false⟩])) (by kernel_rfl) ?_
            refine oK [0, 1, 4, 7, 8, 120] (eE := [(0, .str a0), (1, .int .i64 a1), (4, .ptr 0 3 0), (7, .int .i64 0), (8, .int .i64 0), (120, .bool (decide (x0_2 = 63)))]) (by kernel_rfl) ?_
            refine oS 120 (b := decide (x0_2 = 63)) (by kernel_rfl) (fun hb => ?_) (fun hb => ?_)
            ·let E27 : Env := [(129, .bool (decide (fW .i64 (a1 + 1) < (a0.length : Int)))), (128, .bool (decide (fW .i64 (a1 + 1) < (a0.length : Int)))), (127, .int .i64 (a0.length : Int)), (126, .str a0), (125, .int .i64 (fW .i64 (a1 + 1))), (10, .int .i64 (fW .i64 (a1 + 1))), (124, .int .i64 (fW .i64 (a1 + 1))), (123, .int .i64 a1), (120, .bool true), (0, .str a0), (1, .int .i64 a1), (4, .ptr 0 3 0), (7, .int .i64 0), (8, .int .i64 0), (120, .bool (decide (x0_2 = 63)))]
             refine oR 15 (p' := (atN 5 (ctl1 g46p44))) (eE := E27) (H' := (mkH [⟨[.int .i64 0, .str [], .int .i64 0], 0, false⟩])) (by kernel_rfl) ?_
             refine oJ (f := fun (z21 : Bool) => jn (fun (z22 : Int) => jn (fun (z23 : Bool) => if z23 then ((g60 k a0 z22).bind fun x13_2 => j20 (7, fW .i64 (x13_2 - a1))) else (j20 (0, 0))) (fun j23 => if (decide (z22 < (a0.length : Int))) then ((nthS a0 z22).bind fun x12_7 => (g64 k x12_7).bind fun x12_8 => if x12_8 then (j23 true) else ((nthS a0 z22).bind fun x12_12 => j23 (decide (x12_12 = 95)))) else (j23 false))) (fun j22 => if z21 then (j22 (fW .i64 (fW .i64 (a1 + 1) + 1))) else (j22 (fW .i64 (a1 + 1))))) g46p45 (fun (z21 : Bool) => [(0, .str a0), (1, .int .i64 a1), (4, .ptr 0 3 0), (7, .int .i64 0), (8, .int .i64 0), (10, .int .i64 (fW .i64 (a1 + 1))), (134, .bool z21)]) (fun (z21 : Bool) => (mkH [⟨[.int .i64 0, .str [], .int .i64 0], 0, false⟩])) (fun z21 => ?_) (fun j21 hj21 => ?_)
             ·refine oJ (f := fun (z22 : Int) => jn (fun (z23 : Bool) => if z23 then ((g60 k a0 z22).bind fun x13_2 => j20 (7, fW .i64 (x13_2 - a1))) else (j20 (0, 0))) (fun j23 => if (decide (z22 < (a0.length : Int))) then ((nthS a0 z22).bind fun x12_7 => (g64 k x12_7).bind fun x12_8 => if x12_8 then (j23 true) else ((nthS a0 z22).bind fun x12_12 => j23 (decide (x12_12 = 95)))) else (j23 false))) g46p47 (fun (z22 : Int) => [(0, .str a0), (1, .int .i64 a1), (4, .ptr 0 3 0), (7, .int .i64 0), (8, .int .i64 0), (10, .int .i64 z22)]) (fun (z22 : Int) => (mkH [⟨[.int .i64 0, .str [], .int .i64 0], 0, false⟩])) (fun z22 => ?_) (fun j22 hj22 => ?_)
              ·let E28 : Env := [(141, .bool (decide (z22 < (a0.length : Int)))), (140, .bool (decide (z22 < (a0.length : Int)))), (139, .int .i64 (a0.length : Int)), (138, .str a0), (137, .int .i64 z22), (0, .str a0), (1, .int .i64 a1), (4, .ptr 0 3 0), (7, .int .i64 0), (8, .int .i64 0), (10, .int .i64 z22)]
               refine oR 6 (p' := (atN 5 (ctl1 g46p47))) (eE := E28) (H' := (mkH [⟨[.int .i64 0, .str [], .int .i64 0], 0, false⟩])) (by kernel_rfl) ?_
               refine oJ (f := fun (z23 : Bool) => if z23 then ((g60 k a0 z22).bind fun x13_2 => j20 (7, fW .i64 (x13_2 - a1))) else (j20 (0, 0))) g46p48 (fun (z23 : Bool) => [(0, .str a0), (1, .int .i64 a1), (4, .ptr 0 3 0), (7, .int .i64 0), (8, .int .i64 0), (10, .int .i64 z22), (152, .bool z23)]) (fun (z23 : Bool) => (mkH [⟨[.int .i64 0, .str [], .int .i64 0], 0, false⟩])) (fun z23 => ?_) (fun j23 hj23 => ?_)
               ·refine oS 152 (b := z23) (by kernel_rfl) (fun hb => ?_) (fun hb => ?_)
                ·let E29 : Env := [(154, .int .i64 z22), (153, .str a0), (152, .bool true), (0, .str a0), (1, .int .i64 a1), (4, .ptr 0 3 0), (7, .int .i64 0), (8, .int .i64 0), (10, .int .i64 z22), (152, .bool z23)]
                 refine oR 4 (p' := (atN 2 (ctl1 g46p49))) (eE := E29) (H' := (mkH [⟨[.int .i64 0, .str [], .int .i64 0], 0, false⟩])) (by kernel_rfl) ?_
                 refine oC (fun (x13_2 : Int) => .int .i64 x13_2) (atN 3 (ctl1 g46p49)) (fun x13_2 => ((155, .int .i64 x13_2) :: E29)) (fi := 60) (args := [.str a0, .int .i64 z22]) (by kernel_rfl) (by kernel_rfl) (fun _ => by kernel_rfl) (fun r h => g60_ok k a0 z22 r h) (fun _ => by kernel_rfl) (fun x13_2 hx13_2 => ?_)
                 let E30 : Env := ((8, .int .i64 (fW .i64 (x13_2 - a1))) :: (7, .int .i64 7) :: (157, .int .i64 (fW .i64 (x13_2 - a1))) :: (156, .int .i64 a1) :: (155, .int .i64 x13_2) :: E29)
                 refine oR 7 (p' := g46p17) (eE := E30) (H' := (mkH [⟨[.int .i64 0, .str [], .int .i64 0], 0, false⟩])) (by kernel_rfl) ?_
                 refine oK [0, 1, 4, 7, 8] (eE := [(0, .str a0), (1, .int .i64 a1), (4, .ptr 0 3 0), (7, .int .i64 7), (8, .int .i64 (fW .i64 (x13_2 - a1)))]) (by kernel_rfl) ?_
                 exact hj20 (7, fW .i64 (x13_2 - a1))
                ·let E31 : Env := [(152, .bool false), (0, .str a0), (1, .int .i64 a1), (4, .ptr 0 3 0), (7, .int .i64 0), (8, .int .i64 0), (10, .int .i64 z22), (152, .bool z23)]
                 refine oR 4 (p' := g46p17) (eE := E31) (H' := (mkH [⟨[.int .i64 0, .str [], .int .i64 0], 0, false⟩])) (by kernel_rfl) ?_
                 refine oK [0, 1, 4, 7, 8] (eE := [(0, .str a0), (1, .int .i64 a1), (4, .ptr 0 3 0), (7, .int .i64 0), (8, .int .i64 0)]) (by kernel_rfl) ?_
                 exact hj20 (0, 0)
               ·refine oS 141 (b := decide (z22 < (a0.length : Int))) (by kernel_rfl) (fun hb => ?_) (fun hb => ?_)
                ·refine oR 2 (p' := (atN 7 (ctl1 g46p47))) (eE := ((143, .int .i64 z22) :: (142, .str a0) :: (141, .bool true) :: E28)) (H' := (mkH [⟨[.int .i64 0, .str [], .int .i64 0], 0, false⟩])) (by kernel_rfl) ?_
                 refine oH (fun (x12_7 : Int) => (.int .u8 x12_7, (mkH [⟨[.int .i64 0, .str [], .int .i64 0], 0, false⟩]))) (atN 8 (ctl1 g46p47)) (fun x12_7 => ((144, .int .u8 x12_7) :: (143, .int .i64 z22) :: (142, .str a0) :: (141, .bool true) :: E28)) (idxH (by kernel_rfl)) (fun _ => by kernel_rfl) (fun x12_7 hx12_7 => ?_)
                 refine oC (fun (x12_8 : Bool) => .bool x12_8) (atN 9 (ctl1 g46p47)) (fun x12_8 => ((145, .bool x12_8) :: (144, .int .u8 x12_7) :: (143, .int .i64 z22) :: (142, .str a0) :: (141, .bool true) :: E28)) (fi := 64) (args := [.int .u8 x12_7]) (by kernel_rfl) (by kernel_rfl) (fun _ => by kernel_rfl) (fun r h => g64_ok k x12_7 r h) (fun _ => by kernel_rfl) (fun x12_8 hx12_8 => ?_)
                 let E32 : Env := ((146, .bool x12_8) :: (145, .bool x12_8) :: (144, .int .u8 x12_7) :: (143, .int .i64 z22) :: (142, .str a0) :: (141, .bool true) :: E28)
                 refine oR 1 (p' := (atN 10 (ctl1 g46p47))) (eE := E32) (H' := (mkH [⟨[.int .i64 0, .str [], .int .i64 0], 0, false⟩])) (by kernel_rfl) ?_
                 refine oS 146 (b := x12_8) (by kernel_rfl) (fun hb => ?_) (fun hb => ?_)
                 ·let E33 : Env := ((152, .bool true) :: (151, .bool true) :: (150, .tuple []) :: (149, .tuple []) :: (148, .tuple []) :: (147, .tuple []) :: (146, .bool true) :: E32)
                  refine oR 7 (p' := g46p48) (eE := E33) (H' := (mkH [⟨[.int .i64 0, .str [], .int .i64 0], 0, false⟩])) (by kernel_rfl) ?_
                  refine oK [0, 1, 4, 7, 8, 10, 152] (eE := [(0, .str a0), (1, .int .i64 a1), (4, .ptr 0 3 0), (7, .int .i64 0), (8, .int .i64 0), (10, .int .i64 z22), (152, .bool true)]) (by kernel_rfl) ?_
                  exact hj23 true
                 ·refine oR 2 (p' := (atN 12 (ctl1 g46p47))) (eE := ((148, .int .i64 z22) :: (147, .str a0) :: (146, .bool false) :: E32)) (H' := (mkH [⟨[.int .i64 0, .str [], .int .i64 0], 0, false⟩])) (by kernel_rfl) ?_
                  refine oH (fun (x12_12 : Int) => (.int .u8 x12_12, (mkH [⟨[.int .i64 0, .str [], .int .i64 0], 0, false⟩]))) (atN 13 (ctl1 g46p47)) (fun x12_12 => ((149, .int .u8 x12_12) :: (148, .int .i64 z22) :: (147, .str a0) :: (146, .bool false) :: E32)) (idxH (by kernel_rfl)) (fun _ => by kernel_rfl) (fun x12_12 hx12_12 => ?_)
                  let E34 : Env := ((152, .bool (decide (x12_12 = 95))) :: (151, .bool (decide (x12_12 = 95))) :: (150, .bool (decide (x12_12 = 95))) :: (149, .int .u8 x12_12) :: (148, .int .i64 z22) :: (147, .str a0) :: (146, .bool false) :: E32)
                  refine oR 4 (p' := g46p48) (eE := E34) (H' := (mkH [⟨[.int .i64 0, .str [], .int .i64 0], 0, false⟩])) (by kernel_rfl) ?_
                  refine oK [0, 1, 4, 7, 8, 10, 152] (eE := [(0, .str a0), (1, .int .i64 a1), (4, .ptr 0 3 0), (7, .int .i64 0), (8, .int .i64 0), (10, .int .i64 z22), (152, .bool (decide (x12_12 = 95)))]) (by kernel_rfl) ?_
                  exact hj23 (decide (x12_12 = 95))
                ·let E35 : Env := ((152, .bool false) :: (151, .tuple []) :: (150, .tuple []) :: (149, .tuple []) :: (148, .tuple []) :: (147, .tuple []) :: (146, .tuple []) :: (145, .tuple []) :: (144, .tuple []) :: (143, .tuple []) :: (142, .tuple []) :: (141, .bool false) :: E28)
                 refine oR 12 (p' := g46p48) (eE := E35) (H' := (mkH [⟨[.int .i64 0, .str [], .int .i64 0], 0, false⟩])) (by kernel_rfl) ?_
                 refine oK [0, 1, 4, 7, 8, 10, 152] (eE := [(0, .str a0), (1, .int .i64 a1), (4, .ptr 0 3 0), (7, .int .i64 0), (8, .int .i64 0), (10, .int .i64 z22), (152, .bool false)]) (by kernel_rfl) ?_
                 exact hj23 false
              ·refine oS 134 (b := z21) (by kernel_rfl) (fun hb => ?_) (fun hb => ?_)
               ·let E36 : Env := [(10, .int .i64 (fW .i64 (fW .i64 (a1 + 1) + 1))), (136, .int .i64 (fW .i64 (fW .i64 (a1 + 1) + 1))), (135, .int .i64 (fW .i64 (a1 + 1))), (134, .bool true), (0, .str a0), (1, .int .i64 a1), (4, .ptr 0 3 0), (7, .int .i64 0), (8, .int .i64 0), (10, .int .i64 (fW .i64 (a1 + 1))), (134, .bool z21)]
                refine oR 7 (p' := g46p47) (eE := E36) (H' := (mkH [⟨[.int .i64 0, .str [], .int .i64 0], 0, false⟩])) (by kernel_rfl) ?_
                refine oK [0, 1, 4, 7, 8, 10] (eE := [(0, .str a0), (1, .int .i64 a1), (4, .ptr 0 3 0), (7, .int .i64 0), (8, .int .i64 0), (10, .int .i64 (fW .i64 (fW .i64 (a1 + 1) + 1)))]) (by kernel_rfl) ?_
                exact hj22 (fW .i64 (fW .i64 (a1 + 1) + 1))
               ·let E37 : Env := [(134, .bool false), (0, .str a0), (1, .int .i64 a1), (4, .ptr 0 3 0), (7, .int .i64 0), (8, .int .i64 0), (10, .int .i64 (fW .i64 (a1 + 1))), (134, .bool z21)]
                refine oR 3 (p' := g46p47) (eE := E37) (H' := (mkH [⟨[.int .i64 0, .str [], .int .i64 0], 0, false⟩])) (by kernel_rfl) ?_
                refine oK [0, 1, 4, 7, 8, 10] (eE := [(0, .str a0), (1, .int .i64 a1), (4, .ptr 0 3 0), (7, .int .i64 0), (8, .int .i64 0), (10, .int .i64 (fW .i64 (a1 + 1)))]) (by kernel_rfl) ?_
                exact hj22 (fW .i64 (a1 + 1))
             ·refine oS 129 (b := decide (fW .i64 (a1 + 1) < (a0.length : Int))) (by kernel_rfl) (fun hb => ?_) (fun hb => ?_)
              ·refine oR 2 (p' := (atN 7 (ctl1 g46p44))) (eE := ((131, .int .i64 (fW .i64 (a1 + 1))) :: (130, .str a0) :: (129, .bool true) :: E27)) (H' := (mkH [⟨[.int .i64 0, .str [], .int .i64 0], 0, false⟩])) (by kernel_rfl) ?_
               refine oH (fun (x10_7 : Int) => (.int .u8 x10_7, (mkH [⟨[.int .i64 0, .str [], .int .i64 0], 0, false⟩]))) (atN 8 (ctl1 g46p44)) (fun x10_7 => ((132, .int .u8 x10_7) :: (131, .int .i64 (fW .i64 (a1 + 1))) :: (130, .str a0) :: (129, .bool true) :: E27)) (idxH (by kernel_rfl)) (fun _ => by kernel_rfl) (fun x10_7 hx10_7 => ?_)
               let E38 : Env := ((134, .bool (decide (x10_7 = 63))) :: (133, .bool (decide (x10_7 = 63))) :: (132, .int .u8 x10_7) :: (131, .int .i64 (fW .i64 (a1 + 1))) :: (130, .str a0) :: (129, .bool true) :: E27)
               refine oR 3 (p' := g46p45) (eE := E38) (H' := (mkH [⟨[.int .i64 0, .str [], .int .i64 0], 0, false⟩])) (by kernel_rfl) ?_
               refine oK [0, 1, 4, 7, 8, 10, 134] (eE := [(0, .str a0), (1, .int .i64 a1), (4, .ptr 0 3 0), (7, .int .i64 0), (8, .int .i64 0), (10, .int .i64 (fW .i64 (a1 + 1))), (134, .bool (decide (x10_7 = 63)))]) (by kernel_rfl) ?_
               exact hj21 (decide (x10_7 = 63))
              ·let E39 : Env := ((134, .bool false) :: (133, .tuple []) :: (132, .tuple []) :: (131, .tuple []) :: (130, .tuple []) :: (129, .bool false) :: E27)
               refine oR 6 (p' := g46p45) (eE := E39) (H' := (mkH [⟨[.int .i64 0, .str [], .int .i64 0], 0, false⟩])) (by kernel_rfl) ?_
               refine oK [0, 1, 4, 7, 8, 10, 134] (eE := [(0, .str a0), (1, .int .i64 a1), (4, .ptr 0 3 0), (7, .int .i64 0), (8, .int .i64 0), (10, .int .i64 (fW .i64 (a1 + 1))), (134, .bool false)]) (by kernel_rfl) ?_
               exact hj21 false
            ·let E40 : Env := [(24, .int .i64 a1), (23, .str a0), (120, .bool false), (0, .str a0), (1, .int .i64 a1), (4, .ptr 0 3 0), (7, .int .i64 0), (8, .int .i64 0), (120, .bool (decide (x0_2 = 63)))]
             refine oR 4 (p' := (atN 2 (ctl1 g46p43))) (eE := E40) (H' := (mkH [⟨[.int .i64 0, .str [], .int .i64 0], 0, false⟩])) (by kernel_rfl) ?_
             refine oC (fun (x11_2 : Int) => .int .i64 x11_2) (atN 3 (ctl1 g46p43)) (fun x11_2 => ((25, .int .i64 x11_2) :: E40)) (fi := 65) (args := [.str a0, .int .i64 a1]) (by kernel_rfl) (by kernel_rfl) (fun _ => by kernel_rfl) (fun r h => g65_ok k a0 a1 r h) (fun _ => by kernel_rfl) (fun x11_2 hx11_2 => ?_)
             refine oR 5 (p' := g46p17) (eE := ((8, .int .i64 x11_2) :: (7, .int .i64 9) :: (25, .int .i64 x11_2) :: E40)) (H' := (mkH [⟨[.int .i64 0, .str [], .int .i64 0], 0, false⟩])) (by kernel_rfl) ?_
             refine oK [0, 1, 4, 7, 8] (eE := [(0, .str a0), (1, .int .i64 a1), (4, .ptr 0 3 0), (7, .int .i64 9), (8, .int .i64 x11_2)]) (by kernel_rfl) ?_
             exact hj20 (9, x11_2)
    ·refine oS 52 (b := decide (x0_2 = 46)) (by kernel_rfl) (fun hb => ?_) (fun hb => ?_)
     ·let E41 : Env := ((58, .bool (decide (fW .i64 (a1 + 1) = (a0.length : Int)))) :: (57, .bool (decide (fW .i64 (a1 + 1) = (a0.length : Int)))) :: (56, .int .i64 (a0.length : Int)) :: (55, .str a0) :: (54, .int .i64 (fW .i64 (a1 + 1))) :: (53, .int .i64 a1) :: (52, .bool true) :: E12)
      refine oR 6 (p' := (atN 9 (ctl1 g46p10))) (eE := E41) (H' := (mkH [⟨[.int .i64 0, .str [], .int .i64 0], 0, false⟩])) (by kernel_rfl) ?_
      refine oS 58 (b := decide (fW .i64 (a1 + 1) = (a0.length : Int))) (by kernel_rfl) (fun hb => ?_) (fun hb => ?_)
      ·let E42 : Env := ((49, .bool true) :: (74, .bool true) :: (73, .bool true) :: (72, .tuple []) :: (71, .tuple []) :: (70, .tuple []) :: (69, .tuple []) :: (68, .tuple []) :: (67, .tuple []) :: (66, .tuple []) :: (65, .bool true) :: (64, .bool true) :: (63, .tuple []) :: (62, .tuple []) :: (61, .tuple []) :: (60, .tuple []) :: (59, .tuple []) :: (58, .bool true) :: E41)
       refine oR 18 (p' := g46p12) (eE := E42) (H' := (mkH [⟨[.int .i64 0, .str [], .int .i64 0], 0, false⟩])) (by kernel_rfl) ?_
       refine oK [0, 1, 4, 6, 7, 8, 49] (eE := [(0, .str a0), (1, .int .i64 a1), (4, .ptr 0 3 0), (6, .int .u8 x0_2), (7, .int .i64 0), (8, .int .i64 0), (49, .bool true)]) (by kernel_rfl) ?_
       exact hj19 true
      ·refine oR 3 (p' := (atN 12 (ctl1 g46p10))) (eE := ((61, .int .i64 (fW .i64 (a1 + 1))) :: (60, .int .i64 a1) :: (59, .str a0) :: (58, .bool false) :: E41)) (H' := (mkH [⟨[.int .i64 0, .str [], .int .i64 0], 0, false⟩])) (by kernel_rfl) ?_
       refine oH (fun (x1_12 : Int) => (.int .u8 x1_12, (mkH [⟨[.int .i64 0, .str [], .int .i64 0], 0, false⟩]))) (atN 13 (ctl1 g46p10)) (fun x1_12 => ((62, .int .u8 x1_12) :: (61, .int .i64 (fW .i64 (a1 + 1))) :: (60, .int .i64 a1) :: (59, .str a0) :: (58, .bool false) :: E41)) (idxH (by kernel_rfl)) (fun _ => by kernel_rfl) (fun x1_12 hx1_12 => ?_)
       let E43 : Env := ((65, .bool (decide (x1_12 = 37))) :: (64, .bool (decide (x1_12 = 37))) :: (63, .bool (decide (x1_12 = 37))) :: (62, .int .u8 x1_12) :: (61, .int .i64 (fW .i64 (a1 + 1))) :: (60, .int .i64 a1) :: (59, .str a0) :: (58, .bool false) :: E41)
       refine oR 3 (p' := (atN 16 (ctl1 g46p10))) (eE := E43) (H' := (mkH [⟨[.int .i64 0, .str [], .int .i64 0], 0, false⟩])) (by kernel_rfl) ?_
       refine oS 65 (b := decide (x1_12 = 37)) (by kernel_rfl) (fun hb => ?_) (fun hb => ?_)
       ·let E44 : Env := ((49, .bool true) :: (74, .bool true) :: (73, .bool true) :: (72, .tuple []) :: (71, .tuple []) :: (70, .tuple []) :: (69, .tuple []) :: (68, .tuple []) :: (67, .tuple []) :: (66, .tuple []) :: (65, .bool true) :: E43)
        refine oR 11 (p' := g46p12) (eE := E44) (H' := (mkH [⟨[.int .i64 0, .str [], .int .i64 0], 0, false⟩])) (by kernel_rfl) ?_
        refine oK [0, 1, 4, 6, 7, 8, 49] (eE := [(0, .str a0), (1, .int .i64 a1), (4, .ptr 0 3 0), (6, .int .u8 x0_2), (7, .int .i64 0), (8, .int .i64 0), (49, .bool true)]) (by kernel_rfl) ?_
        exact hj19 true
       ·refine oR 3 (p' := (atN 19 (ctl1 g46p10))) (eE := ((68, .int .i64 (fW .i64 (a1 + 1))) :: (67, .int .i64 a1) :: (66, .str a0) :: (65, .bool false) :: E43)) (H' := (mkH [⟨[.int .i64 0, .str [], .int .i64 0], 0, false⟩])) (by kernel_rfl) ?_
        refine oC (fun (x1_19 : Int) => .int .i64 x1_19) (atN 20 (ctl1 g46p10)) (fun x1_19 => ((69, .int .i64 x1_19) :: (68, .int .i64 (fW .i64 (a1 + 1))) :: (67, .int .i64 a1) :: (66, .str a0) :: (65, .bool false) :: E43)) (fi := 45) (args := [.str a0, .int .i64 (fW .i64 (a1 + 1))]) (by kernel_rfl) (by kernel_rfl) (fun _ => by kernel_rfl) (fun r h => g45_ok k a0 (fW .i64 (a1 + 1)) r h) (fun _ => by kernel_rfl) (fun x1_19 hx1_19 => ?_)
        let E45 : Env := ((49, .bool (decide (fW .i64 (a1 + 1) < x1_19))) :: (74, .bool (decide (fW .i64 (a1 + 1) < x1_19))) :: (73, .bool (decide (fW .i64 (a1 + 1) < x1_19))) :: (72, .bool (decide (fW .i64 (a1 + 1) < x1_19))) :: (71, .int .i64 (fW .i64 (a1 + 1))) :: (70, .int .i64 a1) :: (69, .int .i64 x1_19) :: (68, .int .i64 (fW .i64 (a1 + 1))) :: (67, .int .i64 a1) :: (66, .str a0) :: (65, .bool false) :: E43)
        refine oR 7 (p' := g46p12) (eE := E45) (H' := (mkH [⟨[.int .i64 0, .str [], .int .i64 0], 0, false⟩])) (by kernel_rfl) ?_
        refine oK [0, 1, 4, 6, 7, 8, 49] (eE := [(0, .str a0), (1, .int .i64 a1), (4, .ptr 0 3 0), (6, .int .u8 x0_2), (7, .int .i64 0), (8, .int .i64 0), (49, .bool (decide (fW .i64 (a1 + 1) < x1_19)))]) (by kernel_rfl) ?_
        exact hj19 (decide (fW .i64 (a1 + 1) < x1_19))
     ·let E46 : Env := ((49, .bool false) :: (74, .bool false) :: (73, .tuple []) :: (72, .tuple []) :: (71, .tuple []) :: (70, .tuple []) :: (69, .tuple []) :: (68, .tuple []) :: (67, .tuple []) :: (66, .tuple []) :: (65, .tuple []) :: (64, .tuple []) :: (63, .tuple []) :: (62, .tuple []) :: (61, .tuple []) :: (60, .tuple []) :: (59, .tuple []) :: (58, .tuple []) :: (57, .tuple []) :: (56, .tuple []) :: (55, .tuple []) :: (54, .tuple []) :: (53, .tuple []) :: (52, .bool false) :: E12)
      refine oR 24 (p' := g46p12) (eE := E46) (H' := (mkH [⟨[.int .i64 0, .str [], .int .i64 0], 0, false⟩])) (by kernel_rfl) ?_
      refine oK [0, 1, 4, 6, 7, 8, 49] (eE := [(0, .str a0), (1, .int .i64 a1), (4, .ptr 0 3 0), (6, .int .u8 x0_2), (7, .int .i64 0), (8, .int .i64 0), (49, .bool false)]) (by kernel_rfl) ?_
      exact hj19 false
 ·refine oS 13 (b := decide (a1 < 0)) (by kernel_rfl) (fun hb => ?_) (fun hb => ?_)
  ·let E47 : Env := ((18, .bool true) :: (17, .tuple []) :: (16, .tuple []) :: (15, .tuple []) :: (14, .tuple []) :: (13, .bool true) :: E1)
   refine oR 6 (p' := g46p2) (eE := E47) (H' := (mkH [⟨[.int .i64 0, .str [], .int .i64 0], 0, false⟩])) (by kernel_rfl) ?_
   refine oK [0, 1, 4, 18] (eE := [(0, .str a0), (1, .int .i64 a1), (4, .ptr 0 3 0), (18, .bool true)]) (by kernel_rfl) ?_
   exact hj17 true
  ·let E48 : Env := ((18, .bool (decide ((a0.length : Int) ≤ a1))) :: (17, .bool (decide ((a0.length : Int) ≤ a1))) :: (16, .int .i64 (a0.length : Int)) :: (15, .str a0) :: (14, .int .i64 a1) :: (13, .bool false) :: E1)
   refine oR 6 (p' := g46p2) (eE := E48) (H' := (mkH [⟨[.int .i64 0, .str [], .int .i64 0], 0, false⟩])) (by kernel_rfl) ?_
   refine oK [0, 1, 4, 18] (eE := [(0, .str a0), (1, .int .i64 a1), (4, .ptr 0 3 0), (18, .bool (decide ((a0.length : Int) ≤ a1)))]) (by kernel_rfl) ?_
   exact hj17 (decide ((a0.length : Int) ≤ a1))
end
end Go.Proofs.Ytbmijiibfaacmaa.Am
set_option maxRecDepth 100000
set_option linter.unusedVariables false
namespace Go.Proofs.Ytbmijiibfaacmaa.Am
noncomputable section
open Go
def X28 : Fx ((List S46) × Int) := ⟨Try.prog, cx, Try.f28, fun r => .tuple [.vec (r.1).length 3 ((r.1).flatMap e47), .int .i64 r.2], 0, fun _ => H0, cxTi, cxOrd⟩
def g28p0 : Pt := nav [0] (bodyAt Try.f28)
def g28p1 : Pt := nav [0, 0, 0, 0] g28p0
def g28p2 : Pt := nav [0, 0] g28p1
def g28p4 : Pt := nav [2, 0, 0, 0] g28p2
def g28p6 : Pt := nav [0, 0] g28p4
def g28p8 : Pt := nav [2, 0, 0] g28p6
def g28p9 : Pt := nav [0, 0, 0, 0] g28p8
def g28p10 : Pt := nav [0, 0, 0, 0] g28p9
def g28p11 : Pt := nav [0, 0, 0] g28p10
def g28p12 : Pt := nav [0, 0] g28p11
def g28p13 : Pt := nav [1, 0, 0, 0] g28p12
def g28p15 : Pt := nav [0, 0, 0, 0] g28p13
def g28p16 : Pt := nav [0, 0] g28p15
def g28p18 : Pt := nav [2, 0, 0] g28p16
def g28p19 : Pt := nav [0, 0] g28p18
def g28_l5 (k : Nat)  (a0 : (List Nat)) (n : Nat) : Int → (List S46) → Option ((List S46) × Int) :=
 Nat.rec (motive := fun _ => Int → (List S46) → Option ((List S46) × Int)) (fun _ _ => none) (fun _ ih => fun (y5_0 : Int) (y5_1 : (List S46)) => if (decide (y5_0 < (a0.length : Int))) then ((g46 k a0 y5_0).bind fun x2_2 => if (!decide (x2_2.2 = 0)) then (some (([] : List S46), x2_2.2)) else ((appS 32 y5_1 ([(⟨x2_2.1.f0, x2_2.1.f1, x2_2.1.f2⟩ : S46)] : List S46)).bind fun x3_3 => (g45 k a0 (fW .i64 (y5_0 + (x2_2.1.f1.length : Int)))).bind fun x4_6 => ih x4_6 x3_3)) else (some (y5_1, (0 : Int)))) n
theorem g28_l5_s (k : Nat)  (a0 : (List Nat)) (n : Nat) (y5_0 : Int) (y5_1 : (List S46)) : g28_l5 k a0 (n + 1) y5_0 y5_1 = (if (decide (y5_0 < (a0.length : Int))) then ((g46 k a0 y5_0).bind fun x2_2 => if (!decide (x2_2.2 = 0)) then (some (([] : List S46), x2_2.2)) else ((appS 32 y5_1 ([(⟨x2_2.1.f0, x2_2.1.f1, x2_2.1.f2⟩ : S46)] : List S46)).bind fun x3_3 => (g45 k a0 (fW .i64 (y5_0 + (x2_2.1.f1.length : Int)))).bind fun x4_6 => (g28_l5 k a0 n) x4_6 x3_3)) else (some (y5_1, (0 : Int)))) := rfl
theorem g28_l5_ok (k : Nat)  (a0 : (List Nat))  : ∀ (n : Nat) (y5_0 : Int) (y5_1 : (List S46)), Ok X28 g28p10 [(0, .str a0), (4, .own 0 (y5_1).length 3), (5, .int .i64 y5_0)] (mkH [⟨(y5_1).flatMap e47, 0, false⟩]) (g28_l5 k a0 n y5_0 y5_1)
 | 0, _, _ => ok_none
 | n + 1, y5_0, y5_1 => by
  have ih := g28_l5_ok k a0 n
  rw [g28_l5_s]
  refine ok_ent (p' := nav [0] g28p10) (by kernel_rfl) ?_
  let E4 : Env := [(19, .bool (decide (y5_0 < (a0.length : Int)))), (18, .int .i64 (a0.length : Int)), (17, .str a0), (16, .int .i64 y5_0), (0, .str a0), (4, .own 0 (y5_1).length 3), (5, .int .i64 y5_0)]
  refine oR 8 (p' := g28p12) (eE := E4) (H' := (mkH [⟨(y5_1).flatMap e47, 0, false⟩])) (by kernel_rfl) ?_
  refine oS 19 (b := decide (y5_0 < (a0.length : Int))) (by kernel_rfl) (fun hb => ?_) (fun hb => ?_)
  ·refine oR 7 (p' := (atN 2 (ctl1 g28p13))) (eE := ((22, .int .i64 y5_0) :: (21, .str a0) :: (19, .bool true) :: E4)) (H' := (mkH [⟨(y5_1).flatMap e47, 0, false⟩])) (by kernel_rfl) ?_
   refine oC (fun (x2_2 : (S46 × Int)) => .tuple [.agg [.int .i64 x2_2.1.f0, .str x2_2.1.f1, .int .i64 x2_2.1.f2], .int .i64 x2_2.2]) (atN 3 (ctl1 g28p13)) (fun x2_2 => ((23, .tuple [.agg [.int .i64 x2_2.1.f0, .str x2_2.1.f1, .int .i64 x2_2.1.f2], .int .i64 x2_2.2]) :: (22, .int .i64 y5_0) :: (21, .str a0) :: (19, .bool true) :: E4)) (fi := 46) (args := [.str a0, .int .i64 y5_0]) (by kernel_rfl) (by kernel_rfl) (fun _ => by kernel_rfl) (fun r h => g46_ok k a0 y5_0 r h) (fun _ => by kernel_rfl) (fun x2_2 hx2_2 => ?_)
   let E5 : Env := ((7, .int .i64 x2_2.2) :: (6, .ptr 1 3 0) :: (25, .int .i64 x2_2.2) :: (24, .agg [.int .i64 x2_2.1.f0, .str x2_2.1.f1, .int .i64 x2_2.1.f2]) :: (20, .tuple [.agg [.int .i64 x2_2.1.f0, .str x2_2.1.f1, .int .i64 x2_2.1.f2], .int .i64 x2_2.2]) :: (23, .tuple [.agg [.int .i64 x2_2.1.f0, .str x2_2.1.f1, .int .i64 x2_2.1.f2], .int .i64 x2_2.2]) :: (22, .int .i64 y5_0) :: (21, .str a0) :: (19, .bool true) :: E4)
   refine oR 9 (p' := g28p15) (eE := E5) (H' := (mkH [⟨(y5_1).flatMap e47, 0, false⟩, ⟨[.int .i64 x2_2.1.f0, .str x2_2.1.f1, .int .i64 x2_2.1.f2], 3, false⟩])) (by kernel_rfl) ?_
   refine oK [0, 4, 5, 6, 7] (eE := [(0, .str a0), (4, .own 0 (y5_1).length 3), (5, .int .i64 y5_0), (6, .ptr 1 3 0), (7, .int .i64 x2_2.2)]) (by kernel_rfl) ?_
   let E6 : Env := [(27, .bool (!decide (x2_2.2 = 0))), (26, .int .i64 x2_2.2), (0, .str a0), (4, .own 0 (y5_1).length 3), (5, .int .i64 y5_0), (6, .ptr 1 3 0), (7, .int .i64 x2_2.2)]
   refine oR 4 (p' := g28p16) (eE := E6) (H' := (mkH [⟨(y5_1).flatMap e47, 0, false⟩, ⟨[.int .i64 x2_2.1.f0, .str x2_2.1.f1, .int .i64 x2_2.1.f2], 3, false⟩])) (by kernel_rfl) ?_
   refine oS 27 (b := !decide (x2_2.2 = 0)) (by kernel_rfl) (fun hb => ?_) (fun hb => ?_)
   ·refine oR 8 (p' := .fin) (eE := ((3, .int .i64 x2_2.2) :: (2, .nils) :: (28, .int .i64 x2_2.2) :: (27, .bool true) :: E6)) (H' := (mkH [⟨(y5_1).flatMap e47, 0, false⟩, ⟨[.int .i64 x2_2.1.f0, .str x2_2.1.f1, .int .i64 x2_2.1.f2], 3, false⟩])) (by kernel_rfl) ?_
    exact oT (r := (([] : List S46), x2_2.2)) (xs := [.nils, .int .i64 x2_2.2]) (v := .tuple [.vec 0 3 [], .int .i64 x2_2.2]) (by kernel_rfl) (by kernel_rfl) (by kernel_rfl) (.tuple (.nil (.pures (by kernel_rfl))) (.pures (by kernel_rfl))) (by kernel_rfl)
   ·refine oR 7 (p' := (atN 3 (ctl1 g28p18))) (eE := ((31, .slice 2 3 0 1 3) :: (30, .agg [.int .i64 x2_2.1.f0, .str x2_2.1.f1, .int .i64 x2_2.1.f2]) :: (29, .own 0 (y5_1).length 3) :: (27, .bool false) :: E6)) (H' := (mkH [⟨(y5_1).flatMap e47, 0, false⟩, ⟨[.int .i64 x2_2.1.f0, .str x2_2.1.f1, .int .i64 x2_2.1.f2], 3, false⟩, ⟨[.int .i64 x2_2.1.f0, .str x2_2.1.f1, .int .i64 x2_2.1.f2], 0, false⟩])) (by kernel_rfl) ?_
    refine oH (fun (x3_3 : (List S46)) => (.own 0 (x3_3).length 3, (mkH [⟨(x3_3).flatMap e47, 0, false⟩, ⟨[.int .i64 x2_2.1.f0, .str x2_2.1.f1, .int .i64 x2_2.1.f2], 3, false⟩, ⟨[.int .i64 x2_2.1.f0, .str x2_2.1.f1, .int .i64 x2_2.1.f2], 0, false⟩]))) (atN 4 (ctl1 g28p18)) (fun x3_3 => ((32, .own 0 (x3_3).length 3) :: (31, .slice 2 3 0 1 3) :: (30, .agg [.int .i64 x2_2.1.f0, .str x2_2.1.f1, .int .i64 x2_2.1.f2]) :: (29, .own 0 (y5_1).length 3) :: (27, .bool false) :: E6)) (appH (sz := 3) e47_len rfl e47_one [⟨(y5_1).flatMap e47, 0, false⟩, ⟨[.int .i64 x2_2.1.f0, .str x2_2.1.f1, .int .i64 x2_2.1.f2], 3, false⟩, ⟨[.int .i64 x2_2.1.f0, .str x2_2.1.f1, .int .i64 x2_2.1.f2], 0, false⟩] 0 32 y5_1 ([(⟨x2_2.1.f0, x2_2.1.f1, x2_2.1.f2⟩ : S46)] : List S46) rfl rfl (by kernel_rfl)) (fun _ => by kernel_rfl) (fun x3_3 hx3_3 => ?_)
    let E7 : Env := ((4, .own 0 (x3_3).length 3) :: (32, .own 0 (x3_3).length 3) :: (31, .slice 2 3 0 1 3) :: (30, .agg [.int .i64 x2_2.1.f0, .str x2_2.1.f1, .int .i64 x2_2.1.f2]) :: (29, .own 0 (y5_1).length 3) :: (27, .bool false) :: E6)
    refine oR 2 (p' := g28p19) (eE := E7) (H' := (mkH [⟨(x3_3).flatMap e47, 0, false⟩, ⟨[.int .i64 x2_2.1.f0, .str x2_2.1.f1, .int .i64 x2_2.1.f2], 3, false⟩, ⟨[.int .i64 x2_2.1.f0, .str x2_2.1.f1, .int .i64 x2_2.1.f2], 0, false⟩])) (by kernel_rfl) ?_
    refine oK [0, 4, 5, 6] (eE := [(0, .str a0), (4, .own 0 (x3_3).length 3), (5, .int .i64 y5_0), (6, .ptr 1 3 0)]) (by kernel_rfl) ?_
    let E8 : Env := [(38, .int .i64 (fW .i64 (y5_0 + (x2_2.1.f1.length : Int)))), (37, .int .i64 (x2_2.1.f1.length : Int)), (36, .str x2_2.1.f1), (35, .ptr 1 3 1), (34, .int .i64 y5_0), (33, .str a0), (0, .str a0), (4, .own 0 (x3_3).length 3), (5, .int .i64 y5_0), (6, .ptr 1 3 0)]
    refine oR 7 (p' := (atN 6 (ctl1 g28p19))) (eE := E8) (H' := (mkH [⟨(x3_3).flatMap e47, 0, false⟩, ⟨[.int .i64 x2_2.1.f0, .str x2_2.1.f1, .int .i64 x2_2.1.f2], 3, false⟩, ⟨[.int .i64 x2_2.1.f0, .str x2_2.1.f1, .int .i64 x2_2.1.f2], 0, false⟩])) (by kernel_rfl) ?_
    refine oC (fun (x4_6 : Int) => .int .i64 x4_6) (atN 7 (ctl1 g28p19)) (fun x4_6 => ((39, .int .i64 x4_6) :: E8)) (fi := 45) (args := [.str a0, .int .i64 (fW .i64 (y5_0 + (x2_2.1.f1.length : Int)))]) (by kernel_rfl) (by kernel_rfl) (fun _ => by kernel_rfl) (fun r h => g45_ok k a0 (fW .i64 (y5_0 + (x2_2.1.f1.length : Int))) r h) (fun _ => by kernel_rfl) (fun x4_6 hx4_6 => ?_)
    refine oR 2 (p' := g28p10) (eE := ((5, .int .i64 x4_6) :: (39, .int .i64 x4_6) :: E8)) (H' := (mkH [⟨(x3_3).flatMap e47, 0, false⟩, ⟨[.int .i64 x2_2.1.f0, .str x2_2.1.f1, .int .i64 x2_2.1.f2], 3, false⟩, ⟨[.int .i64 x2_2.1.f0, .str x2_2.1.f1, .int .i64 x2_2.1.f2], 0, false⟩])) (by kernel_rfl) ?_
    refine oK [0, 4, 5] (eE := [(0, .str a0), (4, .own 0 (x3_3).length 3), (5, .int .i64 x4_6)]) (by kernel_rfl) ?_
    refine ok_cut [⟨(x3_3).flatMap e47, 0, false⟩] [⟨[.int .i64 x2_2.1.f0, .str x2_2.1.f1, .int .i64 x2_2.1.f2], 3, false⟩, ⟨[.int .i64 x2_2.1.f0, .str x2_2.1.f1, .int .i64 x2_2.1.f2], 0, false⟩] (by kernel_rfl) rfl (by kernel_rfl) ⟨(purs_belows _ (purs_flatMap e47_pur _)), trivial⟩ ?_
    exact ih x4_6 x3_3
  ·refine oR 9 (p' := .fin) (eE := ((3, .int .i64 0) :: (2, .own 0 (y5_1).length 3) :: (40, .own 0 (y5_1).length 3) :: (19, .bool false) :: E4)) (H' := (mkH [⟨(y5_1).flatMap e47, 0, false⟩])) (by kernel_rfl) ?_
   exact oT (r := (y5_1, (0 : Int))) (xs := [.own 0 (y5_1).length 3, .int .i64 0]) (v := .tuple [.vec (y5_1).length 3 ((y5_1).flatMap e47), .int .i64 0]) (by kernel_rfl) (by kernel_rfl) (by kernel_rfl) (.tuple (fz_own e47_len e47_pur rfl rfl (.pures (by kernel_rfl))) (.pures (by kernel_rfl))) (by kernel_rfl)
def g28 (k : Nat) (a0 : (List Nat)) : Option ((List S46) × Int) :=
 if (decide (65536 < (a0.length : Int))) then (some (([] : List S46), (3 : Int))) else ((g44 k a0).bind fun x0_1 => if (!x0_1) then (some (([] : List S46), (2 : Int))) else ((g45 k a0 (0 : Int)).bind fun x1_1 => g28_l5 k a0 k x1_1 ([] : List S46)))
theorem g28_ok (k : Nat) (a0 : (List Nat)) (r : ((List S46) × Int)) (h : g28 k a0 = some r) : PureOk Try.prog 28 [.str a0] (.tuple [.vec (r.1).length 3 ((r.1).flatMap e47), .int .i64 r.2]) := by
 refine pure_of X28 (fun _ => rfl) Try.func28 (by decide +kernel) (by kernel_rfl) (t := g28 k a0) ?_ h
 unfold g28
 refine oE (eE := [(0, .str a0)]) (by kernel_rfl) ?_
 let E1 : Env := [(10, .bool (decide (65536 < (a0.length : Int)))), (9, .int .i64 (a0.length : Int)), (8, .str a0), (3, .int .i64 0), (2, .nils), (0, .str a0)]
 refine oR 12 (p' := g28p2) (eE := E1) (H' := (mkH [])) (by kernel_rfl) ?_
 refine oS 10 (b := decide (65536 < (a0.length : Int))) (by kernel_rfl) (fun hb => ?_) (fun hb => ?_)
 ·refine oR 7 (p' := .fin) (eE := ((3, .int .i64 3) :: (2, .nils) :: (10, .bool true) :: E1)) (H' := (mkH [])) (by kernel_rfl) ?_
  exact oT (r := (([] : List S46), (3 : Int))) (xs := [.nils, .int .i64 3]) (v := .tuple [.vec 0 3 [], .int .i64 3]) (by kernel_rfl) (by kernel_rfl) (by kernel_rfl) (.tuple (.nil (.pures (by kernel_rfl))) (.pures (by kernel_rfl))) (by kernel_rfl)
 ·refine oR 6 (p' := (atN 1 (ctl1 g28p4))) (eE := ((11, .str a0) :: (10, .bool false) :: E1)) (H' := (mkH [])) (by kernel_rfl) ?_
  refine oC (fun (x0_1 : Bool) => .bool x0_1) (atN 2 (ctl1 g28p4)) (fun x0_1 => ((12, .bool x0_1) :: (11, .str a0) :: (10, .bool false) :: E1)) (fi := 44) (args := [.str a0]) (by kernel_rfl) (by kernel_rfl) (fun _ => by kernel_rfl) (fun r h => g44_ok k a0 r h) (fun _ => by kernel_rfl) (fun x0_1 hx0_1 => ?_)
  refine oR 2 (p' := g28p6) (eE := ((13, .bool (!x0_1)) :: (12, .bool x0_1) :: (11, .str a0) :: (10, .bool false) :: E1)) (H' := (mkH [])) (by kernel_rfl) ?_
  refine oK [0, 13] (eE := [(0, .str a0), (13, .bool (!x0_1))]) (by kernel_rfl) ?_
  refine oS 13 (b := !x0_1) (by kernel_rfl) (fun hb => ?_) (fun hb => ?_)
  ·let E2 : Env := [(3, .int .i64 2), (2, .nils), (13, .bool true), (0, .str a0), (13, .bool (!x0_1))]
   refine oR 7 (p' := .fin) (eE := E2) (H' := (mkH [])) (by kernel_rfl) ?_
   exact oT (r := (([] : List S46), (2 : Int))) (xs := [.nils, .int .i64 2]) (v := .tuple [.vec 0 3 [], .int .i64 2]) (by kernel_rfl) (by kernel_rfl) (by kernel_rfl) (.tuple (.nil (.pures (by kernel_rfl))) (.pures (by kernel_rfl))) (by kernel_rfl)
  ·refine oR 5 (p' := (atN 1 (ctl1 g28p8))) (eE := [(4, .nils), (13, .bool false), (0, .str a0), (13, .bool (!x0_1))]) (H' := (mkH [])) (by kernel_rfl) ?_
   refine ok_own [] 4 3 rfl (by kernel_rfl) ?_
   refine oE (eE := [(4, .own 0 (([] : List S46)).length 3), (4, .nils), (13, .bool false), (0, .str a0), (13, .bool (!x0_1))]) (by kernel_rfl) ?_
   refine ok_heap (H' := (mkH [⟨(([] : List S46)).flatMap e47, 0, false⟩])) (by kernel_rfl) ?_
   let E3 : Env := [(14, .str a0), (4, .own 0 (([] : List S46)).length 3), (4, .nils), (13, .bool false), (0, .str a0), (13, .bool (!x0_1))]
   refine oR 5 (p' := (atN 1 (ctl1 g28p9))) (eE := E3) (H' := (mkH [⟨(([] : List S46)).flatMap e47, 0, false⟩])) (by kernel_rfl) ?_
   refine oC (fun (x1_1 : Int) => .int .i64 x1_1) (atN 2 (ctl1 g28p9)) (fun x1_1 => ((15, .int .i64 x1_1) :: E3)) (fi := 45) (args := [.str a0, .int .i64 0]) (by kernel_rfl) (by kernel_rfl) (fun _ => by kernel_rfl) (fun r h => g45_ok k a0 (0 : Int) r h) (fun _ => by kernel_rfl) (fun x1_1 hx1_1 => ?_)
   refine oR 4 (p' := g28p10) (eE := ((5, .int .i64 x1_1) :: (15, .int .i64 x1_1) :: E3)) (H' := (mkH [⟨(([] : List S46)).flatMap e47, 0, false⟩])) (by kernel_rfl) ?_
   refine oK [0, 4, 5] (eE := [(0, .str a0), (4, .own 0 (([] : List S46)).length 3), (5, .int .i64 x1_1)]) (by kernel_rfl) ?_
   exact (g28_l5_ok k a0 k) x1_1 ([] : List S46)
end
end Go.Proofs.Ytbmijiibfaacmaa.Am
set_option maxRecDepth 100000
set_option linter.unusedVariables false
namespace Go.Proofs.Ytbmijiibfaacmaa.Am
noncomputable section
open Go
def X38 : Fx Int := ⟨Try.prog, cx, Try.f38, fun r => .int .i64 r, 0, fun _ => H0, cxTi, cxOrd⟩
def g38 (k : Nat) (a0 : S46) : Option Int :=
 some (fW .i64 (a0.f2 + (a0.f1.length : Int)))
theorem g38_ok (k : Nat) (a0 : S46) (r : Int) (h : g38 k a0 = some r) : PureOk Try.prog 38 [.agg [.int .i64 a0.f0, .str a0.f1, .int .i64 a0.f2]] (.int .i64 r) := by
 refine pure_of X38 (fun _ => rfl) Try.func38 (by decide +kernel) (by kernel_rfl) (t := g38 k a0) ?_ h
 unfold g38
 refine oE (eE := [(0, .agg [.int .i64 a0.f0, .str a0.f1, .int .i64 a0.f2])]) (by kernel_rfl) ?_
 let E1 : Env := [(2, .int .i64 (fW .i64 (a0.f2 + (a0.f1.length : Int)))), (8, .int .i64 (fW .i64 (a0.f2 + (a0.f1.length : Int)))), (7, .int .i64 (a0.f1.length : Int)), (6, .str a0.f1), (5, .ptr 0 3 1), (4, .int .i64 a0.f2), (3, .ptr 0 3 2), (2, .int .i64 0), (1, .ptr 0 3 0), (0, .agg [.int .i64 a0.f0, .str a0.f1, .int .i64 a0.f2])]
 refine oR 16 (p' := .fin) (eE := E1) (H' := (mkH [⟨[.int .i64 a0.f0, .str a0.f1, .int .i64 a0.f2], 0, false⟩])) (by kernel_rfl) ?_
 exact oT (r := (fW .i64 (a0.f2 + (a0.f1.length : Int)))) (xs := [.int .i64 (fW .i64 (a0.f2 + (a0.f1.length : Int)))]) (v := .int .i64 (fW .i64 (a0.f2 + (a0.f1.length : Int)))) (by kernel_rfl) (by kernel_rfl) (by kernel_rfl) (.pures (by kernel_rfl)) (by kernel_rfl)
end
end Go.Proofs.Ytbmijiibfaacmaa.Am
set_option maxRecDepth 100000
set_option linter.unusedVariables false
namespace Go.Proofs.Ytbmijiibfaacmaa.Am
noncomputable section
open Go
def X66 : Fx Bool := ⟨Try.prog, cx, Try.f66, fun r => .bool r, 0, fun _ => H0, cxTi, cxOrd⟩
def g66p0 : Pt := nav [0] (bodyAt Try.f66)
def g66p1 : Pt := nav [0, 0, 0] g66p0
def g66 (k : Nat) (a0 : (List Nat)) (a1 : S46) : Option Bool :=
 if (decide (0 ≤ a1.f2)) then (if (decide (a1.f2 ≤ (a0.length : Int))) then (some (decide ((a1.f1.length : Int) ≤ fW .i64 ((a0.length : Int) - a1.f2)))) else (some false)) else (some false)
theorem g66_ok (k : Nat) (a0 : (List Nat)) (a1 : S46) (r : Bool) (h : g66 k a0 a1 = some r) : PureOk Try.prog 66 [.str a0, .agg [.int .i64 a1.f0, .str a1.f1, .int .i64 a1.f2]] (.bool r) := by
 refine pure_of X66 (fun _ => rfl) Try.func66 (by decide +kernel) (by kernel_rfl) (t := g66 k a0 a1) ?_ h
 unfold g66
 refine oE (eE := [(0, .str a0), (1, .agg [.int .i64 a1.f0, .str a1.f1, .int .i64 a1.f2])]) (by kernel_rfl) ?_
 let E1 : Env := [(8, .bool (decide (0 ≤ a1.f2))), (7, .bool (decide (0 ≤ a1.f2))), (6, .int .i64 a1.f2), (5, .ptr 0 3 2), (4, .bool false), (3, .ptr 0 3 0), (0, .str a0), (1, .agg [.int .i64 a1.f0, .str a1.f1, .int .i64 a1.f2])]
 refine oR 11 (p' := (atN 4 (ctl1 g66p1))) (eE := E1) (H' := (mkH [⟨[.int .i64 a1.f0, .str a1.f1, .int .i64 a1.f2], 0, false⟩])) (by kernel_rfl) ?_
 refine oS 8 (b := decide (0 ≤ a1.f2)) (by kernel_rfl) (fun hb => ?_) (fun hb => ?_)
 ·let E2 : Env := ((15, .bool (decide (a1.f2 ≤ (a0.length : Int)))) :: (14, .bool (decide (a1.f2 ≤ (a0.length : Int)))) :: (13, .bool (decide (a1.f2 ≤ (a0.length : Int)))) :: (12, .int .i64 (a0.length : Int)) :: (11, .str a0) :: (10, .int .i64 a1.f2) :: (9, .ptr 0 3 2) :: (8, .bool true) :: E1)
  refine oR 7 (p' := (atN 11 (ctl1 g66p1))) (eE := E2) (H' := (mkH [⟨[.int .i64 a1.f0, .str a1.f1, .int .i64 a1.f2], 0, false⟩])) (by kernel_rfl) ?_
  refine oS 15 (b := decide (a1.f2 ≤ (a0.length : Int))) (by kernel_rfl) (fun hb => ?_) (fun hb => ?_)
  ·let E3 : Env := ((4, .bool (decide ((a1.f1.length : Int) ≤ fW .i64 ((a0.length : Int) - a1.f2)))) :: (25, .bool (decide ((a1.f1.length : Int) ≤ fW .i64 ((a0.length : Int) - a1.f2)))) :: (24, .bool (decide ((a1.f1.length : Int) ≤ fW .i64 ((a0.length : Int) - a1.f2)))) :: (23, .int .i64 (fW .i64 ((a0.length : Int) - a1.f2))) :: (22, .int .i64 a1.f2) :: (21, .ptr 0 3 2) :: (20, .int .i64 (a0.length : Int)) :: (19, .str a0) :: (18, .int .i64 (a1.f1.length : Int)) :: (17, .str a1.f1) :: (16, .ptr 0 3 1) :: (15, .bool true) :: E2)
   refine oR 13 (p' := .fin) (eE := E3) (H' := (mkH [⟨[.int .i64 a1.f0, .str a1.f1, .int .i64 a1.f2], 0, false⟩])) (by kernel_rfl) ?_
   exact oT (r := (decide ((a1.f1.length : Int) ≤ fW .i64 ((a0.length : Int) - a1.f2)))) (xs := [.bool (decide ((a1.f1.length : Int) ≤ fW .i64 ((a0.length : Int) - a1.f2)))]) (v := .bool (decide ((a1.f1.length : Int) ≤ fW .i64 ((a0.length : Int) - a1.f2)))) (by kernel_rfl) (by kernel_rfl) (by kernel_rfl) (.pures (by kernel_rfl)) (by kernel_rfl)
  ·let E4 : Env := ((4, .bool false) :: (25, .bool false) :: (24, .tuple []) :: (23, .tuple []) :: (22, .tuple []) :: (21, .tuple []) :: (20, .tuple []) :: (19, .tuple []) :: (18, .tuple []) :: (17, .tuple []) :: (16, .tuple []) :: (15, .bool false) :: E2)
   refine oR 13 (p' := .fin) (eE := E4) (H' := (mkH [⟨[.int .i64 a1.f0, .str a1.f1, .int .i64 a1.f2], 0, false⟩])) (by kernel_rfl) ?_
   exact oT (r := false) (xs := [.bool false]) (v := .bool false) (by kernel_rfl) (by kernel_rfl) (by kernel_rfl) (.pures (by kernel_rfl)) (by kernel_rfl)
 ·let E5 : Env := ((4, .bool false) :: (25, .bool false) :: (24, .tuple []) :: (23, .tuple []) :: (22, .tuple []) :: (21, .tuple []) :: (20, .tuple []) :: (19, .tuple []) :: (18, .tuple []) :: (17, .tuple []) :: (16, .tuple []) :: (15, .bool false) :: (14, .bool false) :: (13, .tuple []) :: (12, .tuple []) :: (11, .tuple []) :: (10, .tuple []) :: (9, .tuple []) :: (8, .bool false) :: E1)
  refine oR 20 (p' := .fin) (eE := E5) (H' := (mkH [⟨[.int .i64 a1.f0, .str a1.f1, .int .i64 a1.f2], 0, false⟩])) (by kernel_rfl) ?_
  exact oT (r := false) (xs := [.bool false]) (v := .bool false) (by kernel_rfl) (by kernel_rfl) (by kernel_rfl) (.pures (by kernel_rfl)) (by kernel_rfl)
end
end Go.Proofs.Ytbmijiibfaacmaa.Am
set_option maxRecDepth 100000
set_option linter.unusedVariables false
namespace Go.Proofs.Ytbmijiibfaacmaa.Am
noncomputable section
open Go
def X49 : Fx Int := ⟨Try.prog, cx, Try.f49, fun r => .int .i64 r, 0, fun _ => H0, cxTi, cxOrd⟩
def X49f67_0 (a_0 : Int) (b_1 : Int) : Fx Int := ⟨Try.prog, cx, Try.f67, fun r => .tuple [], 1, fun r => (mkH [⟨[.int .i64 r], 1, false⟩]), cxTi, cxOrd⟩
def g49f67_0p0 : Pt := nav [0] (bodyAt Try.f67)
def g49f67_0p1 : Pt := nav [0, 0] g49f67_0p0
def g49f67_0 (k : Nat) (a_0 : Int) (b_1 : Int) : Option Int :=
 if (decide (a_0 = 10)) then (some (fW .i64 (b_1 + 1))) else (some b_1)
theorem g49f67_0_ok (k : Nat) (a_0 : Int) (b_1 : Int) (r : Int) (h : g49f67_0 k a_0 b_1 = some r) : CallV Try.prog 67 [.int .u8 a_0, .ptr 0 1 0] (mkH [⟨[.int .i64 b_1], 1, false⟩]) (.tuple []) (mkH [⟨[.int .i64 r], 1, false⟩]) := by
 refine callM_of (X49f67_0 a_0 b_1) Try.func67 (by kernel_rfl) (by kernel_rfl) rfl (t := g49f67_0 k a_0 b_1) ?_ h
 unfold g49f67_0
 refine oE (eE := [(0, .int .u8 a_0), (1, .ptr 0 1 0)]) (by kernel_rfl) ?_
 refine oR 5 (p' := g49f67_0p1) (eE := [(4, .bool (decide (a_0 = 10))), (3, .int .u8 a_0), (0, .int .u8 a_0), (1, .ptr 0 1 0)]) (H' := (mkH [⟨[.int .i64 b_1], 1, false⟩])) (by kernel_rfl) ?_
 refine oS 4 (b := decide (a_0 = 10)) (by kernel_rfl) (fun hb => ?_) (fun hb => ?_)
 ·let E1 : Env := [(6, .int .i64 (fW .i64 (b_1 + 1))), (5, .int .i64 b_1), (4, .bool true), (4, .bool (decide (a_0 = 10))), (3, .int .u8 a_0), (0, .int .u8 a_0), (1, .ptr 0 1 0)]
  refine oR 6 (p' := .fin) (eE := E1) (H' := (mkH [⟨[.int .i64 (fW .i64 (b_1 + 1))], 1, false⟩])) (by kernel_rfl) ?_
  refine oK [] (eE := []) (by kernel_rfl) ?_
  exact ok_retM (r := (fW .i64 (b_1 + 1))) (xs := []) (by kernel_rfl) (by kernel_rfl) (by kernel_rfl) (by kernel_rfl)
 ·let E2 : Env := [(4, .bool false), (4, .bool (decide (a_0 = 10))), (3, .int .u8 a_0), (0, .int .u8 a_0), (1, .ptr 0 1 0)]
  refine oR 2 (p' := .fin) (eE := E2) (H' := (mkH [⟨[.int .i64 b_1], 1, false⟩])) (by kernel_rfl) ?_
  refine oK [] (eE := []) (by kernel_rfl) ?_
  exact ok_retM (r := b_1) (xs := []) (by kernel_rfl) (by kernel_rfl) (by kernel_rfl) (by kernel_rfl)
def g49p0 : Pt := nav [0] (bodyAt Try.f49)
def g49p1 : Pt := nav [0, 0, 0, 0] g49p0
def g49p2 : Pt := nav [0] g49p1
def g49p4 : Pt := nav [2, 0, 0] g49p2
def g49p6 : Pt := nav [0, 0, 0] g49p4
def g49p7 : Pt := nav [0, 0, 0, 0] g49p6
def g49p8 : Pt := nav [0, 0, 0, 0] g49p7
def g49p9 : Pt := nav [0, 0, 0] g49p8
def g49p10 : Pt := nav [0, 0] g49p9
def g49p11 : Pt := nav [1, 0, 0, 0] g49p10
def g49p13 : Pt := nav [0, 0] g49p11
def g49_l5 (k : Nat)  (a0 : (List Nat)) (a1 : (List S46)) (a2 : Int) (n : Nat) : Int → Int → Option Int :=
 Nat.rec (motive := fun _ => Int → Int → Option Int) (fun _ _ => none) (fun _ ih => fun (y5_0 : Int) (y5_1 : Int) => (nthL a1 a2).bind fun x2_3 => if (decide (y5_0 < x2_3.f2)) then ((nthS a0 y5_0).bind fun x3_3 => (g49f67_0 k x3_3 y5_1).bind fun x3_4 => ih (fW .i64 (y5_0 + 1)) x3_4) else (some y5_1)) n
theorem g49_l5_s (k : Nat)  (a0 : (List Nat)) (a1 : (List S46)) (a2 : Int) (n : Nat) (y5_0 : Int) (y5_1 : Int) : g49_l5 k a0 a1 a2 (n + 1) y5_0 y5_1 = ((nthL a1 a2).bind fun x2_3 => if (decide (y5_0 < x2_3.f2)) then ((nthS a0 y5_0).bind fun x3_3 => (g49f67_0 k x3_3 y5_1).bind fun x3_4 => (g49_l5 k a0 a1 a2 n) (fW .i64 (y5_0 + 1)) x3_4) else (some y5_1)) := rfl
theorem g49_l5_ok (k : Nat)  (a0 : (List Nat)) (a1 : (List S46)) (a2 : Int)  : ∀ (n : Nat) (y5_0 : Int) (y5_1 : Int), Ok X49 g49p8 [(0, .str a0), (1, .vec (a1).length 3 ((a1).flatMap e47)), (2, .int .i64 a2), (7, .ptr 0 1 0), (8, .func 67 [] [.ptr 0 1 0]), (9, .int .i64 y5_0)] (mkH [⟨[.int .i64 y5_1], 1, false⟩]) (g49_l5 k a0 a1 a2 n y5_0 y5_1)
 | 0, _, _ => ok_none
 | n + 1, y5_0, y5_1 => by
  have ih := g49_l5_ok k a0 a1 a2 n
  rw [g49_l5_s]
  refine ok_ent (p' := nav [0] g49p8) (by kernel_rfl) ?_
  let E3 : Env := [(60, .int .i64 a2), (59, .vec (a1).length 3 ((a1).flatMap e47)), (58, .int .i64 y5_0), (0, .str a0), (1, .vec (a1).length 3 ((a1).flatMap e47)), (2, .int .i64 a2), (7, .ptr 0 1 0), (8, .func 67 [] [.ptr 0 1 0]), (9, .int .i64 y5_0)]
  refine oR 6 (p' := (atN 3 (ctl1 g49p9))) (eE := E3) (H' := (mkH [⟨[.int .i64 y5_1], 1, false⟩])) (by kernel_rfl) ?_
  refine oH (fun (x2_3 : S46) => (.vptr [.int .i64 x2_3.f0, .str x2_3.f1, .int .i64 x2_3.f2], (mkH [⟨[.int .i64 y5_1], 1, false⟩]))) (atN 4 (ctl1 g49p9)) (fun x2_3 => ((61, .vptr [.int .i64 x2_3.f0, .str x2_3.f1, .int .i64 x2_3.f2]) :: E3)) (vidxH (sz := 3) e47_len (by kernel_rfl)) (fun _ => by kernel_rfl) (fun x2_3 hx2_3 => ?_)
  refine oR 4 (p' := g49p10) (eE := ((64, .bool (decide (y5_0 < x2_3.f2))) :: (63, .int .i64 x2_3.f2) :: (62, .vptr [.int .i64 x2_3.f2]) :: (61, .vptr [.int .i64 x2_3.f0, .str x2_3.f1, .int .i64 x2_3.f2]) :: E3)) (H' := (mkH [⟨[.int .i64 y5_1], 1, false⟩])) (by kernel_rfl) ?_
  refine oS 64 (b := decide (y5_0 < x2_3.f2)) (by kernel_rfl) (fun hb => ?_) (fun hb => ?_)
  ·let E4 : Env := ((69, .int .i64 y5_0) :: (68, .str a0) :: (67, .func 67 [] [.ptr 0 1 0]) :: (64, .bool true) :: (64, .bool (decide (y5_0 < x2_3.f2))) :: (63, .int .i64 x2_3.f2) :: (62, .vptr [.int .i64 x2_3.f2]) :: (61, .vptr [.int .i64 x2_3.f0, .str x2_3.f1, .int .i64 x2_3.f2]) :: E3)
   refine oR 8 (p' := (atN 3 (ctl1 g49p11))) (eE := E4) (H' := (mkH [⟨[.int .i64 y5_1], 1, false⟩])) (by kernel_rfl) ?_
   refine oH (fun (x3_3 : Int) => (.int .u8 x3_3, (mkH [⟨[.int .i64 y5_1], 1, false⟩]))) (atN 4 (ctl1 g49p11)) (fun x3_3 => ((70, .int .u8 x3_3) :: E4)) (idxH (by kernel_rfl)) (fun _ => by kernel_rfl) (fun x3_3 hx3_3 => ?_)
   refine ok_callM (fun (x3_4 : Int) => .tuple []) (fun (x3_4 : Int) => (mkH [⟨[.int .i64 x3_4], 1, false⟩])) (atN 5 (ctl1 g49p11)) (fun x3_4 => ((71, .tuple []) :: (70, .int .u8 x3_3) :: E4)) (fi := 67) (args := [.int .u8 x3_3, .ptr 0 1 0]) (by kernel_rfl) (fun r h => g49f67_0_ok k x3_3 y5_1 r h) (fun _ => by kernel_rfl) (fun x3_4 hx3_4 => ?_)
   refine oR 1 (p' := g49p13) (eE := ((71, .tuple []) :: (70, .int .u8 x3_3) :: E4)) (H' := (mkH [⟨[.int .i64 x3_4], 1, false⟩])) (by kernel_rfl) ?_
   refine oK [0, 1, 2, 7, 8, 9] (eE := [(0, .str a0), (1, .vec (a1).length 3 ((a1).flatMap e47)), (2, .int .i64 a2), (7, .ptr 0 1 0), (8, .func 67 [] [.ptr 0 1 0]), (9, .int .i64 y5_0)]) (by kernel_rfl) ?_
   let E5 : Env := [(9, .int .i64 (fW .i64 (y5_0 + 1))), (66, .int .i64 (fW .i64 (y5_0 + 1))), (65, .int .i64 y5_0), (0, .str a0), (1, .vec (a1).length 3 ((a1).flatMap e47)), (2, .int .i64 a2), (7, .ptr 0 1 0), (8, .func 67 [] [.ptr 0 1 0]), (9, .int .i64 y5_0)]
   refine oR 5 (p' := g49p8) (eE := E5) (H' := (mkH [⟨[.int .i64 x3_4], 1, false⟩])) (by kernel_rfl) ?_
   refine oK [0, 1, 2, 7, 8, 9] (eE := [(0, .str a0), (1, .vec (a1).length 3 ((a1).flatMap e47)), (2, .int .i64 a2), (7, .ptr 0 1 0), (8, .func 67 [] [.ptr 0 1 0]), (9, .int .i64 (fW .i64 (y5_0 + 1)))]) (by kernel_rfl) ?_
   exact ih (fW .i64 (y5_0 + 1)) x3_4
  ·let E6 : Env := ((6, .int .i64 y5_1) :: (72, .int .i64 y5_1) :: (64, .bool false) :: (64, .bool (decide (y5_0 < x2_3.f2))) :: (63, .int .i64 x2_3.f2) :: (62, .vptr [.int .i64 x2_3.f2]) :: (61, .vptr [.int .i64 x2_3.f0, .str x2_3.f1, .int .i64 x2_3.f2]) :: E3)
   refine oR 8 (p' := .fin) (eE := E6) (H' := (mkH [⟨[.int .i64 y5_1], 1, false⟩])) (by kernel_rfl) ?_
   exact oT (r := y5_1) (xs := [.int .i64 y5_1]) (v := .int .i64 y5_1) (by kernel_rfl) (by kernel_rfl) (by kernel_rfl) (.pures (by kernel_rfl)) (by kernel_rfl)
def g49 (k : Nat) (a0 : (List Nat)) (a1 : (List S46)) (a2 : Int) : Option Int :=
 jn (fun (z4 : Bool) => if z4 then (some (0 : Int)) else ((nthL a1 (fW .i64 (a2 - 1))).bind fun x1_3 => (g38 k (⟨x1_3.f0, x1_3.f1, x1_3.f2⟩ : S46)).bind fun x1_5 => g49_l5 k a0 a1 a2 k x1_5 0)) (fun j4 => if (decide (a2 < 1)) then (j4 true) else (if (decide ((a1.length : Int) ≤ a2)) then (j4 true) else ((nthL a1 (fW .i64 (a2 - 1))).bind fun x0_13 => (g66 k a0 (⟨x0_13.f0, x0_13.f1, x0_13.f2⟩ : S46)).bind fun x0_15 => if (!x0_15) then (j4 true) else ((nthL a1 a2).bind fun x0_22 => (g66 k a0 (⟨x0_22.f0, x0_22.f1, x0_22.f2⟩ : S46)).bind fun x0_24 => if (!x0_24) then (j4 true) else ((nthL a1 (fW .i64 (a2 - 1))).bind fun x0_31 => (g38 k (⟨x0_31.f0, x0_31.f1, x0_31.f2⟩ : S46)).bind fun x0_33 => (nthL a1 a2).bind fun x0_36 => j4 (decide (x0_36.f2 < x0_33)))))))
end
end Go.Proofs.Ytbmijiibfaacmaa.Am
