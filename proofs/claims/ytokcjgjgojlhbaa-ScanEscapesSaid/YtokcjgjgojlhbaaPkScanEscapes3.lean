/- LawScanEscapes, part 3: whatever the input, the law comes out true: our texts, joined by a tool, without what the claim does not name. -/
import Derived.Test.YtokcjgjgojlhbaaPkScanEscapes2
set_option maxRecDepth 100000
set_option linter.unusedVariables false
namespace Go.Proofs.Ytokcjgjgojlhbaa.Am
noncomputable section
open Go
def g64p0 : Pt := nav [0] (bodyAt Try.f64)
def g64p1 : Pt := nav [0, 0, 0] g64p0
def g64p2 : Pt := nav [0, 0, 0, 0] g64p1
def g64p3 : Pt := nav [0, 0, 0, 0] g64p2
def g64p4 : Pt := nav [0, 0, 0] g64p3
def g64p5 : Pt := nav [0, 0] g64p4
def g64p6 : Pt := nav [1, 0, 0, 0, 0, 0] g64p5
def g64p8 : Pt := nav [0, 0] g64p6
def g64p10 : Pt := nav [1] g64p8
def g64p11 : Pt := nav [2, 0] g64p8
def g64p12 : Pt := nav [0, 0] g64p10
def g64p13 : Pt := nav [0, 0] g64p11
def g64_l2 (k : Nat)  (a0 : (List Nat)) (a1 : Int) (n : Nat) : Int → Int → Option Int :=
 Nat.rec (motive := fun _ => Int → Int → Option Int) (fun _ _ => none) (fun _ ih => fun (y2_0 : Int) (y2_1 : Int) => if (decide (y2_1 < (a0.length : Int))) then ((nthS a0 y2_1).bind fun x0_2 => (g63 k x0_2).bind fun x0_3 => jn (fun (z3 : Int × Int) => ih z3.1 (fW .i64 (z3.2 + 1))) (fun j3 => if (decide (x0_3 < a1)) then (j3 (fW .i64 (y2_1 + 1), y2_1)) else ((nthS a0 y2_1).bind fun x1_2 => jn (fun (z4 : Int × Int × Bool) => if z4.2.2 then (some z4.1) else (j3 (z4.1, z4.2.1))) (fun j4 => if (!decide (x1_2 = 95)) then (j4 (y2_0, y2_1, true)) else (if (decide (y2_1 = 0)) then (j4 (y2_0, y2_1, true)) else (j4 (y2_0, y2_1, !decide (y2_0 = y2_1)))))))) else (some y2_0)) n
theorem g64_l2_s (k : Nat)  (a0 : (List Nat)) (a1 : Int) (n : Nat) (y2_0 : Int) (y2_1 : Int) : g64_l2 k a0 a1 (n + 1) y2_0 y2_1 = (if (decide (y2_1 < (a0.length : Int))) then ((nthS a0 y2_1).bind fun x0_2 => (g63 k x0_2).bind fun x0_3 => jn (fun (z3 : Int × Int) => (g64_l2 k a0 a1 n) z3.1 (fW .i64 (z3.2 + 1))) (fun j3 => if (decide (x0_3 < a1)) then (j3 (fW .i64 (y2_1 + 1), y2_1)) else ((nthS a0 y2_1).bind fun x1_2 => jn (fun (z4 : Int × Int × Bool) => if z4.2.2 then (some z4.1) else (j3 (z4.1, z4.2.1))) (fun j4 => if (!decide (x1_2 = 95)) then (j4 (y2_0, y2_1, true)) else (if (decide (y2_1 = 0)) then (j4 (y2_0, y2_1, true)) else (j4 (y2_0, y2_1, !decide (y2_0 = y2_1)))))))) else (some y2_0)) := rfl
theorem g64_l2_ok (k : Nat)  (a0 : (List Nat)) (a1 : Int)  : ∀ (n : Nat) (y2_0 : Int) (y2_1 : Int), Ok X64 g64p3 [(0, .str a0), (1, .int .i64 a1), (5, .int .i64 y2_0), (6, .int .i64 y2_1)] (mkH []) (g64_l2 k a0 a1 n y2_0 y2_1)
 | 0, _, _ => ok_none
 | n + 1, y2_0, y2_1 => by
  have ih := g64_l2_ok k a0 a1 n
  rw [g64_l2_s]
  refine ok_ent (p' := nav [0] g64p3) (by kernel_rfl) ?_
  let E2 : Env := [(10, .bool (decide (y2_1 < (a0.length : Int)))), (9, .int .i64 (a0.length : Int)), (8, .str a0), (7, .int .i64 y2_1), (0, .str a0), (1, .int .i64 a1), (5, .int .i64 y2_0), (6, .int .i64 y2_1)]
  refine oR 8 (p' := g64p5) (eE := E2) (H' := (mkH [])) (by kernel_rfl) ?_
  refine oS 10 (b := decide (y2_1 < (a0.length : Int))) (by kernel_rfl) (fun hb => ?_) (fun hb => ?_)
  ·refine oR 9 (p' := (atN 2 (ctl1 g64p6))) (eE := ((15, .int .i64 y2_1) :: (14, .str a0) :: (10, .bool true) :: E2)) (H' := (mkH [])) (by kernel_rfl) ?_
   refine oH (fun (x0_2 : Int) => (.int .u8 x0_2, (mkH []))) (atN 3 (ctl1 g64p6)) (fun x0_2 => ((16, .int .u8 x0_2) :: (15, .int .i64 y2_1) :: (14, .str a0) :: (10, .bool true) :: E2)) (idxH (by kernel_rfl)) (fun _ => by kernel_rfl) (fun x0_2 hx0_2 => ?_)
   refine oC (fun (x0_3 : Int) => .int .i64 x0_3) (atN 4 (ctl1 g64p6)) (fun x0_3 => ((17, .int .i64 x0_3) :: (16, .int .u8 x0_2) :: (15, .int .i64 y2_1) :: (14, .str a0) :: (10, .bool true) :: E2)) (fi := 63) (args := [.int .u8 x0_2]) (by kernel_rfl) (by kernel_rfl) (fun _ => by kernel_rfl) (fun r h => g63_ok k x0_2 r h) (fun _ => by kernel_rfl) (fun x0_3 hx0_3 => ?_)
   let E3 : Env := ((13, .bool (decide (x0_3 < a1))) :: (19, .bool (decide (x0_3 < a1))) :: (18, .int .i64 a1) :: (17, .int .i64 x0_3) :: (16, .int .u8 x0_2) :: (15, .int .i64 y2_1) :: (14, .str a0) :: (10, .bool true) :: E2)
   refine oR 4 (p' := g64p8) (eE := E3) (H' := (mkH [])) (by kernel_rfl) ?_
   refine oK [0, 1, 5, 6, 13] (eE := [(0, .str a0), (1, .int .i64 a1), (5, .int .i64 y2_0), (6, .int .i64 y2_1), (13, .bool (decide (x0_3 < a1)))]) (by kernel_rfl) ?_
   refine oJ (f := fun (z3 : Int × Int) => (g64_l2 k a0 a1 n) z3.1 (fW .i64 (z3.2 + 1))) g64p12 (fun (z3 : Int × Int) => [(0, .str a0), (1, .int .i64 a1), (5, .int .i64 z3.1), (6, .int .i64 z3.2)]) (fun (z3 : Int × Int) => (mkH [])) (fun z3 => ?_) (fun j3 hj3 => ?_)
   ·let E4 : Env := [(6, .int .i64 (fW .i64 (z3.2 + 1))), (12, .int .i64 (fW .i64 (z3.2 + 1))), (11, .int .i64 z3.2), (0, .str a0), (1, .int .i64 a1), (5, .int .i64 z3.1), (6, .int .i64 z3.2)]
    refine oR 5 (p' := g64p3) (eE := E4) (H' := (mkH [])) (by kernel_rfl) ?_
    refine oK [0, 1, 5, 6] (eE := [(0, .str a0), (1, .int .i64 a1), (5, .int .i64 z3.1), (6, .int .i64 (fW .i64 (z3.2 + 1)))]) (by kernel_rfl) ?_
    exact ih z3.1 (fW .i64 (z3.2 + 1))
   ·refine oS 13 (b := decide (x0_3 < a1)) (by kernel_rfl) (fun hb => ?_) (fun hb => ?_)
    ·let E5 : Env := [(5, .int .i64 (fW .i64 (y2_1 + 1))), (21, .int .i64 (fW .i64 (y2_1 + 1))), (20, .int .i64 y2_1), (13, .bool true), (0, .str a0), (1, .int .i64 a1), (5, .int .i64 y2_0), (6, .int .i64 y2_1), (13, .bool (decide (x0_3 < a1)))]
     refine oR 6 (p' := g64p12) (eE := E5) (H' := (mkH [])) (by kernel_rfl) ?_
     refine oK [0, 1, 5, 6] (eE := [(0, .str a0), (1, .int .i64 a1), (5, .int .i64 (fW .i64 (y2_1 + 1))), (6, .int .i64 y2_1)]) (by kernel_rfl) ?_
     exact hj3 (fW .i64 (y2_1 + 1), y2_1)
    ·let E6 : Env := [(24, .int .i64 y2_1), (23, .str a0), (13, .bool false), (0, .str a0), (1, .int .i64 a1), (5, .int .i64 y2_0), (6, .int .i64 y2_1), (13, .bool (decide (x0_3 < a1)))]
     refine oR 5 (p' := (atN 2 (ctl1 g64p11))) (eE := E6) (H' := (mkH [])) (by kernel_rfl) ?_
     refine oH (fun (x1_2 : Int) => (.int .u8 x1_2, (mkH []))) (atN 3 (ctl1 g64p11)) (fun x1_2 => ((25, .int .u8 x1_2) :: E6)) (idxH (by kernel_rfl)) (fun _ => by kernel_rfl) (fun x1_2 hx1_2 => ?_)
     refine oR 2 (p' := (atN 5 (ctl1 g64p11))) (eE := ((27, .bool (!decide (x1_2 = 95))) :: (26, .bool (!decide (x1_2 = 95))) :: (25, .int .u8 x1_2) :: E6)) (H' := (mkH [])) (by kernel_rfl) ?_
     refine oJ (f := fun (z4 : Int × Int × Bool) => if z4.2.2 then (some z4.1) else (j3 (z4.1, z4.2.1))) g64p13 (fun (z4 : Int × Int × Bool) => [(0, .str a0), (1, .int .i64 a1), (5, .int .i64 z4.1), (6, .int .i64 z4.2.1), (22, .bool z4.2.2)]) (fun (z4 : Int × Int × Bool) => (mkH [])) (fun z4 => ?_) (fun j4 hj4 => ?_)
     ·refine oS 22 (b := z4.2.2) (by kernel_rfl) (fun hb => ?_) (fun hb => ?_)
      ·let E7 : Env := [(4, .int .i64 z4.1), (36, .int .i64 z4.1), (22, .bool true), (0, .str a0), (1, .int .i64 a1), (5, .int .i64 z4.1), (6, .int .i64 z4.2.1), (22, .bool z4.2.2)]
       refine oR 7 (p' := .fin) (eE := E7) (H' := (mkH [])) (by kernel_rfl) ?_
       exact oT (r := z4.1) (xs := [.int .i64 z4.1]) (v := .int .i64 z4.1) (by kernel_rfl) (by kernel_rfl) (by kernel_rfl) (.pures (by kernel_rfl)) (by kernel_rfl)
      ·let E8 : Env := [(22, .bool false), (0, .str a0), (1, .int .i64 a1), (5, .int .i64 z4.1), (6, .int .i64 z4.2.1), (22, .bool z4.2.2)]
       refine oR 2 (p' := g64p12) (eE := E8) (H' := (mkH [])) (by kernel_rfl) ?_
       refine oK [0, 1, 5, 6] (eE := [(0, .str a0), (1, .int .i64 a1), (5, .int .i64 z4.1), (6, .int .i64 z4.2.1)]) (by kernel_rfl) ?_
       exact hj3 (z4.1, z4.2.1)
     ·refine oS 27 (b := !decide (x1_2 = 95)) (by kernel_rfl) (fun hb => ?_) (fun hb => ?_)
      ·let E9 : Env := ((22, .bool true) :: (35, .bool true) :: (34, .tuple []) :: (33, .tuple []) :: (32, .tuple []) :: (31, .bool true) :: (30, .bool true) :: (29, .tuple []) :: (28, .tuple []) :: (27, .bool true) :: (27, .bool (!decide (x1_2 = 95))) :: (26, .bool (!decide (x1_2 = 95))) :: (25, .int .u8 x1_2) :: E6)
       refine oR 10 (p' := g64p13) (eE := E9) (H' := (mkH [])) (by kernel_rfl) ?_
       refine oK [0, 1, 5, 6, 22] (eE := [(0, .str a0), (1, .int .i64 a1), (5, .int .i64 y2_0), (6, .int .i64 y2_1), (22, .bool true)]) (by kernel_rfl) ?_
       exact hj4 (y2_0, y2_1, true)
      ·let E10 : Env := ((31, .bool (decide (y2_1 = 0))) :: (30, .bool (decide (y2_1 = 0))) :: (29, .bool (decide (y2_1 = 0))) :: (28, .int .i64 y2_1) :: (27, .bool false) :: (27, .bool (!decide (x1_2 = 95))) :: (26, .bool (!decide (x1_2 = 95))) :: (25, .int .u8 x1_2) :: E6)
       refine oR 4 (p' := (atN 9 (ctl1 g64p11))) (eE := E10) (H' := (mkH [])) (by kernel_rfl) ?_
       refine oS 31 (b := decide (y2_1 = 0)) (by kernel_rfl) (fun hb => ?_) (fun hb => ?_)
       ·let E11 : Env := ((22, .bool true) :: (35, .bool true) :: (34, .tuple []) :: (33, .tuple []) :: (32, .tuple []) :: (31, .bool true) :: E10)
        refine oR 6 (p' := g64p13) (eE := E11) (H' := (mkH [])) (by kernel_rfl) ?_
        refine oK [0, 1, 5, 6, 22] (eE := [(0, .str a0), (1, .int .i64 a1), (5, .int .i64 y2_0), (6, .int .i64 y2_1), (22, .bool true)]) (by kernel_rfl) ?_
        exact hj4 (y2_0, y2_1, true)
       ·let E12 : Env := ((22, .bool (!decide (y2_0 = y2_1))) :: (35, .bool (!decide (y2_0 = y2_1))) :: (34, .bool (!decide (y2_0 = y2_1))) :: (33, .int .i64 y2_1) :: (32, .int .i64 y2_0) :: (31, .bool false) :: E10)
        refine oR 6 (p' := g64p13) (eE := E12) (H' := (mkH [])) (by kernel_rfl) ?_
        refine oK [0, 1, 5, 6, 22] (eE := [(0, .str a0), (1, .int .i64 a1), (5, .int .i64 y2_0), (6, .int .i64 y2_1), (22, .bool (!decide (y2_0 = y2_1)))]) (by kernel_rfl) ?_
        exact hj4 (y2_0, y2_1, !decide (y2_0 = y2_1))
  ·refine oR 8 (p' := .fin) (eE := ((4, .int .i64 y2_0) :: (37, .int .i64 y2_0) :: (10, .bool false) :: E2)) (H' := (mkH [])) (by kernel_rfl) ?_
   exact oT (r := y2_0) (xs := [.int .i64 y2_0]) (v := .int .i64 y2_0) (by kernel_rfl) (by kernel_rfl) (by kernel_rfl) (.pures (by kernel_rfl)) (by kernel_rfl)
def g64 (k : Nat) (a0 : (List Nat)) (a1 : Int) : Option Int :=
 g64_l2 k a0 a1 k 0 0
theorem g64_ok (k : Nat) (a0 : (List Nat)) (a1 : Int) (r : Int) (h : g64 k a0 a1 = some r) : PureOk Try.prog 64 [.str a0, .int .i64 a1] (.int .i64 r) := by
 refine pure_of X64 (fun _ => rfl) Try.func64 (by decide +kernel) (by kernel_rfl) (t := g64 k a0 a1) ?_ h
 unfold g64
 refine oE (eE := [(0, .str a0), (1, .int .i64 a1)]) (by kernel_rfl) ?_
 let E1 : Env := [(6, .int .i64 0), (5, .int .i64 0), (4, .int .i64 0), (0, .str a0), (1, .int .i64 a1)]
 refine oR 15 (p' := g64p3) (eE := E1) (H' := (mkH [])) (by kernel_rfl) ?_
 refine oK [0, 1, 5, 6] (eE := [(0, .str a0), (1, .int .i64 a1), (5, .int .i64 0), (6, .int .i64 0)]) (by kernel_rfl) ?_
 exact (g64_l2_ok k a0 a1 k) 0 0
end
end Go.Proofs.Ytokcjgjgojlhbaa.Am
set_option maxRecDepth 100000
set_option linter.unusedVariables false
namespace Go.Proofs.Ytokcjgjgojlhbaa.Am
noncomputable section
open Go
def X65 : Fx Int := ⟨Try.prog, cx, Try.f65, fun r => .int .i64 r, 0, fun _ => H0, cxTi, cxOrd⟩
def g65p0 : Pt := nav [0] (bodyAt Try.f65)
def g65p1 : Pt := nav [0, 0, 0] g65p0
def g65p2 : Pt := nav [0, 0, 0, 0, 0] g65p1
def g65p3 : Pt := nav [0, 0, 0] g65p2
def g65p4 : Pt := nav [0, 0] g65p3
def g65_l1 (k : Nat)  (a0 : (List Nat)) (n : Nat) : Int → Option Int :=
 Nat.rec (motive := fun _ => Int → Option Int) (fun _ => none) (fun _ ih => fun (y1_0 : Int) => jn (fun (z2 : Bool × Int) => if z2.1 then (ih (fW .i64 (z2.2 + 1))) else (some z2.2)) (fun j2 => if (decide (y1_0 < (a0.length : Int))) then ((nthS a0 y1_0).bind fun x0_7 => (g63 k x0_7).bind fun x0_8 => j2 (decide (x0_8 < 10), y1_0)) else (j2 (false, y1_0)))) n
theorem g65_l1_s (k : Nat)  (a0 : (List Nat)) (n : Nat) (y1_0 : Int) : g65_l1 k a0 (n + 1) y1_0 = (jn (fun (z2 : Bool × Int) => if z2.1 then ((g65_l1 k a0 n) (fW .i64 (z2.2 + 1))) else (some z2.2)) (fun j2 => if (decide (y1_0 < (a0.length : Int))) then ((nthS a0 y1_0).bind fun x0_7 => (g63 k x0_7).bind fun x0_8 => j2 (decide (x0_8 < 10), y1_0)) else (j2 (false, y1_0)))) := rfl
theorem g65_l1_ok (k : Nat)  (a0 : (List Nat))  : ∀ (n : Nat) (y1_0 : Int), Ok X65 g65p2 [(0, .str a0), (3, .int .i64 y1_0)] (mkH []) (g65_l1 k a0 n y1_0)
 | 0, _ => ok_none
 | n + 1, y1_0 => by
  have ih := g65_l1_ok k a0 n
  rw [g65_l1_s]
  refine ok_ent (p' := nav [0] g65p2) (by kernel_rfl) ?_
  let E1 : Env := [(8, .bool (decide (y1_0 < (a0.length : Int)))), (7, .bool (decide (y1_0 < (a0.length : Int)))), (6, .int .i64 (a0.length : Int)), (5, .str a0), (4, .int .i64 y1_0), (0, .str a0), (3, .int .i64 y1_0)]
  refine oR 8 (p' := (atN 5 (ctl1 g65p3))) (eE := E1) (H' := (mkH [])) (by kernel_rfl) ?_
  refine oJ (f := fun (z2 : Bool × Int) => if z2.1 then ((g65_l1 k a0 n) (fW .i64 (z2.2 + 1))) else (some z2.2)) g65p4 (fun (z2 : Bool × Int) => [(0, .str a0), (3, .int .i64 z2.2), (14, .bool z2.1)]) (fun (z2 : Bool × Int) => (mkH [])) (fun z2 => ?_) (fun j2 hj2 => ?_)
  ·refine oS 14 (b := z2.1) (by kernel_rfl) (fun hb => ?_) (fun hb => ?_)
   ·let E2 : Env := [(3, .int .i64 (fW .i64 (z2.2 + 1))), (16, .int .i64 (fW .i64 (z2.2 + 1))), (15, .int .i64 z2.2), (14, .bool true), (0, .str a0), (3, .int .i64 z2.2), (14, .bool z2.1)]
    refine oR 8 (p' := g65p2) (eE := E2) (H' := (mkH [])) (by kernel_rfl) ?_
    refine oK [0, 3] (eE := [(0, .str a0), (3, .int .i64 (fW .i64 (z2.2 + 1)))]) (by kernel_rfl) ?_
    exact ih (fW .i64 (z2.2 + 1))
   ·let E3 : Env := [(2, .int .i64 z2.2), (17, .int .i64 z2.2), (14, .bool false), (0, .str a0), (3, .int .i64 z2.2), (14, .bool z2.1)]
    refine oR 8 (p' := .fin) (eE := E3) (H' := (mkH [])) (by kernel_rfl) ?_
    exact oT (r := z2.2) (xs := [.int .i64 z2.2]) (v := .int .i64 z2.2) (by kernel_rfl) (by kernel_rfl) (by kernel_rfl) (.pures (by kernel_rfl)) (by kernel_rfl)
  ·refine oS 8 (b := decide (y1_0 < (a0.length : Int))) (by kernel_rfl) (fun hb => ?_) (fun hb => ?_)
   ·refine oR 2 (p' := (atN 7 (ctl1 g65p3))) (eE := ((10, .int .i64 y1_0) :: (9, .str a0) :: (8, .bool true) :: E1)) (H' := (mkH [])) (by kernel_rfl) ?_
    refine oH (fun (x0_7 : Int) => (.int .u8 x0_7, (mkH []))) (atN 8 (ctl1 g65p3)) (fun x0_7 => ((11, .int .u8 x0_7) :: (10, .int .i64 y1_0) :: (9, .str a0) :: (8, .bool true) :: E1)) (idxH (by kernel_rfl)) (fun _ => by kernel_rfl) (fun x0_7 hx0_7 => ?_)
    refine oC (fun (x0_8 : Int) => .int .i64 x0_8) (atN 9 (ctl1 g65p3)) (fun x0_8 => ((12, .int .i64 x0_8) :: (11, .int .u8 x0_7) :: (10, .int .i64 y1_0) :: (9, .str a0) :: (8, .bool true) :: E1)) (fi := 63) (args := [.int .u8 x0_7]) (by kernel_rfl) (by kernel_rfl) (fun _ => by kernel_rfl) (fun r h => g63_ok k x0_7 r h) (fun _ => by kernel_rfl) (fun x0_8 hx0_8 => ?_)
    let E4 : Env := ((14, .bool (decide (x0_8 < 10))) :: (13, .bool (decide (x0_8 < 10))) :: (12, .int .i64 x0_8) :: (11, .int .u8 x0_7) :: (10, .int .i64 y1_0) :: (9, .str a0) :: (8, .bool true) :: E1)
    refine oR 3 (p' := g65p4) (eE := E4) (H' := (mkH [])) (by kernel_rfl) ?_
    refine oK [0, 3, 14] (eE := [(0, .str a0), (3, .int .i64 y1_0), (14, .bool (decide (x0_8 < 10)))]) (by kernel_rfl) ?_
    exact hj2 (decide (x0_8 < 10), y1_0)
   ·let E5 : Env := ((14, .bool false) :: (13, .tuple []) :: (12, .tuple []) :: (11, .tuple []) :: (10, .tuple []) :: (9, .tuple []) :: (8, .bool false) :: E1)
    refine oR 7 (p' := g65p4) (eE := E5) (H' := (mkH [])) (by kernel_rfl) ?_
    refine oK [0, 3, 14] (eE := [(0, .str a0), (3, .int .i64 y1_0), (14, .bool false)]) (by kernel_rfl) ?_
    exact hj2 (false, y1_0)
def g65 (k : Nat) (a0 : (List Nat)) : Option Int :=
 g65_l1 k a0 k 0
theorem g65_ok (k : Nat) (a0 : (List Nat)) (r : Int) (h : g65 k a0 = some r) : PureOk Try.prog 65 [.str a0] (.int .i64 r) := by
 refine pure_of X65 (fun _ => rfl) Try.func65 (by decide +kernel) (by kernel_rfl) (t := g65 k a0) ?_ h
 unfold g65
 refine oE (eE := [(0, .str a0)]) (by kernel_rfl) ?_
 refine oR 11 (p' := g65p2) (eE := [(3, .int .i64 0), (2, .int .i64 0), (0, .str a0)]) (H' := (mkH [])) (by kernel_rfl) ?_
 refine oK [0, 3] (eE := [(0, .str a0), (3, .int .i64 0)]) (by kernel_rfl) ?_
 exact (g65_l1_ok k a0 k) 0
end
end Go.Proofs.Ytokcjgjgojlhbaa.Am
set_option maxRecDepth 100000
set_option linter.unusedVariables false
namespace Go.Proofs.Ytokcjgjgojlhbaa.Am
noncomputable section
open Go
def X66 : Fx Int := ⟨Try.prog, cx, Try.f66, fun r => .int .i64 r, 0, fun _ => H0, cxTi, cxOrd⟩
def g66p0 : Pt := nav [0] (bodyAt Try.f66)
def g66p1 : Pt := nav [0, 0, 0] g66p0
def g66p2 : Pt := nav [0, 0, 0, 0, 0] g66p1
def g66p3 : Pt := nav [0, 0] g66p2
def g66p4 : Pt := nav [1] g66p3
def g66p5 : Pt := nav [2, 0] g66p3
def g66p6 : Pt := nav [0, 0, 0, 0] g66p4
def g66p7 : Pt := nav [0, 0] g66p5
def g66p8 : Pt := nav [0, 0] g66p6
def g66p10 : Pt := nav [2, 0] g66p7
def g66p13 : Pt := nav [0, 0] g66p10
def g66 (k : Nat) (a0 : Int) (a1 : Int) : Option Int :=
 (g42 k a0).bind fun x0_1 => jn (fun (z1 : Int) => if (decide (a1 ≤ z1)) then (some ((-1) : Int)) else (some z1)) (fun j1 => if x0_1 then (j1 (fW .i64 (fW .u8 (a0 - 48)))) else (jn (fun (z2 : Bool) => if z2 then (j1 (fW .i64 (fW .i64 (fW .u8 (a0 - 97)) + 10))) else (jn (fun (z3 : Bool) => if z3 then (j1 (fW .i64 (fW .i64 (fW .u8 (a0 - 65)) + 10))) else (j1 (-1))) (fun j3 => if (decide (65 ≤ a0)) then (j3 (decide (a0 ≤ 90))) else (j3 false)))) (fun j2 => if (decide (97 ≤ a0)) then (j2 (decide (a0 ≤ 122))) else (j2 false))))
theorem g66_ok (k : Nat) (a0 : Int) (a1 : Int) (r : Int) (h : g66 k a0 a1 = some r) : PureOk Try.prog 66 [.int .u8 a0, .int .i64 a1] (.int .i64 r) := by
 refine pure_of X66 (fun _ => rfl) Try.func66 (by decide +kernel) (by kernel_rfl) (t := g66 k a0 a1) ?_ h
 unfold g66
 refine oE (eE := [(0, .int .u8 a0), (1, .int .i64 a1)]) (by kernel_rfl) ?_
 let E1 : Env := [(7, .int .u8 a0), (5, .int .i64 (-1)), (4, .int .i64 0), (0, .int .u8 a0), (1, .int .i64 a1)]
 refine oR 13 (p' := (atN 1 (ctl1 g66p2))) (eE := E1) (H' := (mkH [])) (by kernel_rfl) ?_
 refine oC (fun (x0_1 : Bool) => .bool x0_1) (atN 2 (ctl1 g66p2)) (fun x0_1 => ((8, .bool x0_1) :: E1)) (fi := 42) (args := [.int .u8 a0]) (by kernel_rfl) (by kernel_rfl) (fun _ => by kernel_rfl) (fun r h => g42_ok k a0 r h) (fun _ => by kernel_rfl) (fun x0_1 hx0_1 => ?_)
 refine oR 2 (p' := g66p3) (eE := ((6, .bool x0_1) :: (8, .bool x0_1) :: E1)) (H' := (mkH [])) (by kernel_rfl) ?_
 refine oJ (f := fun (z1 : Int) => if (decide (a1 ≤ z1)) then (some ((-1) : Int)) else (some z1)) g66p6 (fun (z1 : Int) => [(1, .int .i64 a1), (5, .int .i64 z1)]) (fun (z1 : Int) => (mkH [])) (fun z1 => ?_) (fun j1 hj1 => ?_)
 ·let E2 : Env := [(36, .bool (decide (a1 ≤ z1))), (35, .int .i64 a1), (34, .int .i64 z1), (1, .int .i64 a1), (5, .int .i64 z1)]
  refine oR 5 (p' := g66p8) (eE := E2) (H' := (mkH [])) (by kernel_rfl) ?_
  refine oS 36 (b := decide (a1 ≤ z1)) (by kernel_rfl) (fun hb => ?_) (fun hb => ?_)
  ·refine oR 6 (p' := .fin) (eE := ((4, .int .i64 (-1)) :: (36, .bool true) :: E2)) (H' := (mkH [])) (by kernel_rfl) ?_
   exact oT (r := ((-1) : Int)) (xs := [.int .i64 (-1)]) (v := .int .i64 (-1)) (by kernel_rfl) (by kernel_rfl) (by kernel_rfl) (.pures (by kernel_rfl)) (by kernel_rfl)
  ·refine oR 8 (p' := .fin) (eE := ((4, .int .i64 z1) :: (37, .int .i64 z1) :: (36, .bool false) :: E2)) (H' := (mkH [])) (by kernel_rfl) ?_
   exact oT (r := z1) (xs := [.int .i64 z1]) (v := .int .i64 z1) (by kernel_rfl) (by kernel_rfl) (by kernel_rfl) (.pures (by kernel_rfl)) (by kernel_rfl)
 ·refine oS 6 (b := x0_1) (by kernel_rfl) (fun hb => ?_) (fun hb => ?_)
  ·let E3 : Env := ((5, .int .i64 (fW .i64 (fW .u8 (a0 - 48)))) :: (11, .int .i64 (fW .i64 (fW .u8 (a0 - 48)))) :: (10, .int .u8 (fW .u8 (a0 - 48))) :: (9, .int .u8 a0) :: (6, .bool true) :: (6, .bool x0_1) :: (8, .bool x0_1) :: E1)
   refine oR 9 (p' := g66p6) (eE := E3) (H' := (mkH [])) (by kernel_rfl) ?_
   refine oK [1, 5] (eE := [(1, .int .i64 a1), (5, .int .i64 (fW .i64 (fW .u8 (a0 - 48))))]) (by kernel_rfl) ?_
   exact hj1 (fW .i64 (fW .u8 (a0 - 48)))
  ·let E4 : Env := ((15, .bool (decide (97 ≤ a0))) :: (14, .bool (decide (97 ≤ a0))) :: (13, .int .u8 a0) :: (6, .bool false) :: (6, .bool x0_1) :: (8, .bool x0_1) :: E1)
   refine oR 6 (p' := (atN 3 (ctl1 g66p5))) (eE := E4) (H' := (mkH [])) (by kernel_rfl) ?_
   refine oJ (f := fun (z2 : Bool) => if z2 then (j1 (fW .i64 (fW .i64 (fW .u8 (a0 - 97)) + 10))) else (jn (fun (z3 : Bool) => if z3 then (j1 (fW .i64 (fW .i64 (fW .u8 (a0 - 65)) + 10))) else (j1 (-1))) (fun j3 => if (decide (65 ≤ a0)) then (j3 (decide (a0 ≤ 90))) else (j3 false)))) g66p7 (fun (z2 : Bool) => [(0, .int .u8 a0), (1, .int .i64 a1), (5, .int .i64 (-1)), (12, .bool z2)]) (fun (z2 : Bool) => (mkH [])) (fun z2 => ?_) (fun j2 hj2 => ?_)
   ·refine oS 12 (b := z2) (by kernel_rfl) (fun hb => ?_) (fun hb => ?_)
    ·let E5 : Env := [(5, .int .i64 (fW .i64 (fW .i64 (fW .u8 (a0 - 97)) + 10))), (22, .int .i64 (fW .i64 (fW .i64 (fW .u8 (a0 - 97)) + 10))), (21, .int .i64 (fW .i64 (fW .u8 (a0 - 97)))), (20, .int .u8 (fW .u8 (a0 - 97))), (19, .int .u8 a0), (12, .bool true), (0, .int .u8 a0), (1, .int .i64 a1), (5, .int .i64 (-1)), (12, .bool z2)]
     refine oR 10 (p' := g66p6) (eE := E5) (H' := (mkH [])) (by kernel_rfl) ?_
     refine oK [1, 5] (eE := [(1, .int .i64 a1), (5, .int .i64 (fW .i64 (fW .i64 (fW .u8 (a0 - 97)) + 10)))]) (by kernel_rfl) ?_
     exact hj1 (fW .i64 (fW .i64 (fW .u8 (a0 - 97)) + 10))
    ·let E6 : Env := [(26, .bool (decide (65 ≤ a0))), (25, .bool (decide (65 ≤ a0))), (24, .int .u8 a0), (12, .bool false), (0, .int .u8 a0), (1, .int .i64 a1), (5, .int .i64 (-1)), (12, .bool z2)]
     refine oR 6 (p' := (atN 3 (ctl1 g66p10))) (eE := E6) (H' := (mkH [])) (by kernel_rfl) ?_
     refine oJ (f := fun (z3 : Bool) => if z3 then (j1 (fW .i64 (fW .i64 (fW .u8 (a0 - 65)) + 10))) else (j1 (-1))) g66p13 (fun (z3 : Bool) => [(0, .int .u8 a0), (1, .int .i64 a1), (5, .int .i64 (-1)), (23, .bool z3)]) (fun (z3 : Bool) => (mkH [])) (fun z3 => ?_) (fun j3 hj3 => ?_)
     ·refine oS 23 (b := z3) (by kernel_rfl) (fun hb => ?_) (fun hb => ?_)
      ·let E7 : Env := [(5, .int .i64 (fW .i64 (fW .i64 (fW .u8 (a0 - 65)) + 10))), (33, .int .i64 (fW .i64 (fW .i64 (fW .u8 (a0 - 65)) + 10))), (32, .int .i64 (fW .i64 (fW .u8 (a0 - 65)))), (31, .int .u8 (fW .u8 (a0 - 65))), (30, .int .u8 a0), (23, .bool true), (0, .int .u8 a0), (1, .int .i64 a1), (5, .int .i64 (-1)), (23, .bool z3)]
       refine oR 10 (p' := g66p6) (eE := E7) (H' := (mkH [])) (by kernel_rfl) ?_
       refine oK [1, 5] (eE := [(1, .int .i64 a1), (5, .int .i64 (fW .i64 (fW .i64 (fW .u8 (a0 - 65)) + 10)))]) (by kernel_rfl) ?_
       exact hj1 (fW .i64 (fW .i64 (fW .u8 (a0 - 65)) + 10))
      ·let E8 : Env := [(23, .bool false), (0, .int .u8 a0), (1, .int .i64 a1), (5, .int .i64 (-1)), (23, .bool z3)]
       refine oR 4 (p' := g66p6) (eE := E8) (H' := (mkH [])) (by kernel_rfl) ?_
       refine oK [1, 5] (eE := [(1, .int .i64 a1), (5, .int .i64 (-1))]) (by kernel_rfl) ?_
       exact hj1 (-1)
     ·refine oS 26 (b := decide (65 ≤ a0)) (by kernel_rfl) (fun hb => ?_) (fun hb => ?_)
      ·let E9 : Env := ((23, .bool (decide (a0 ≤ 90))) :: (29, .bool (decide (a0 ≤ 90))) :: (28, .bool (decide (a0 ≤ 90))) :: (27, .int .u8 a0) :: (26, .bool true) :: E6)
       refine oR 5 (p' := g66p13) (eE := E9) (H' := (mkH [])) (by kernel_rfl) ?_
       refine oK [0, 1, 5, 23] (eE := [(0, .int .u8 a0), (1, .int .i64 a1), (5, .int .i64 (-1)), (23, .bool (decide (a0 ≤ 90)))]) (by kernel_rfl) ?_
       exact hj3 (decide (a0 ≤ 90))
      ·let E10 : Env := ((23, .bool false) :: (29, .bool false) :: (28, .tuple []) :: (27, .tuple []) :: (26, .bool false) :: E6)
       refine oR 5 (p' := g66p13) (eE := E10) (H' := (mkH [])) (by kernel_rfl) ?_
       refine oK [0, 1, 5, 23] (eE := [(0, .int .u8 a0), (1, .int .i64 a1), (5, .int .i64 (-1)), (23, .bool false)]) (by kernel_rfl) ?_
       exact hj3 false
   ·refine oS 15 (b := decide (97 ≤ a0)) (by kernel_rfl) (fun hb => ?_) (fun hb => ?_)
    ·let E11 : Env := ((12, .bool (decide (a0 ≤ 122))) :: (18, .bool (decide (a0 ≤ 122))) :: (17, .bool (decide (a0 ≤ 122))) :: (16, .int .u8 a0) :: (15, .bool true) :: E4)
     refine oR 5 (p' := g66p7) (eE := E11) (H' := (mkH [])) (by kernel_rfl) ?_
     refine oK [0, 1, 5, 12] (eE := [(0, .int .u8 a0), (1, .int .i64 a1), (5, .int .i64 (-1)), (12, .bool (decide (a0 ≤ 122)))]) (by kernel_rfl) ?_
     exact hj2 (decide (a0 ≤ 122))
    ·let E12 : Env := ((12, .bool false) :: (18, .bool false) :: (17, .tuple []) :: (16, .tuple []) :: (15, .bool false) :: E4)
     refine oR 5 (p' := g66p7) (eE := E12) (H' := (mkH [])) (by kernel_rfl) ?_
     refine oK [0, 1, 5, 12] (eE := [(0, .int .u8 a0), (1, .int .i64 a1), (5, .int .i64 (-1)), (12, .bool false)]) (by kernel_rfl) ?_
     exact hj2 false
end
end Go.Proofs.Ytokcjgjgojlhbaa.Am
set_option maxRecDepth 100000
set_option linter.unusedVariables false
namespace Go.Proofs.Ytokcjgjgojlhbaa.Am
noncomputable section
open Go
def X59 : Fx Int := ⟨Try.prog, cx, Try.f59, fun r => .int .i64 r, 0, fun _ => H0, cxTi, cxOrd⟩
def g59p0 : Pt := nav [0] (bodyAt Try.f59)
def g59p1 : Pt := nav [0, 0, 0] g59p0
def g59p2 : Pt := nav [0, 0, 0, 0, 0] g59p1
def g59p3 : Pt := nav [0, 0, 0] g59p2
def g59p4 : Pt := nav [0, 0] g59p3
def g59p5 : Pt := nav [1, 0, 0, 0, 0] g59p4
def g59p6 : Pt := nav [2, 0, 0] g59p4
def g59p7 : Pt := nav [0, 0] g59p5
def g59_l1 (k : Nat)  (a0 : (List Nat)) (a1 : Int) (a2 : Int) (a3 : Bool) (n : Nat) : Int → Option Int :=
 Nat.rec (motive := fun _ => Int → Option Int) (fun _ => none) (fun _ ih => fun (y1_0 : Int) => jn (fun (z3 : Int) => some (fW .i64 (z3 - a1))) (fun j3 => if (decide (y1_0 < (a0.length : Int))) then ((nthS a0 y1_0).bind fun x0_2 => (g66 k x0_2 a2).bind fun x0_4 => jn (fun (z2 : Bool × Int) => if z2.1 then (j3 z2.2) else (ih (fW .i64 (z2.2 + 1)))) (fun j2 => if (decide (x0_4 < 0)) then (if a3 then ((nthS a0 y1_0).bind fun x0_11 => if (decide (x0_11 = 95)) then (if (decide (a1 < y1_0)) then ((nthS a0 (fW .i64 (y1_0 - 1))).bind fun x0_23 => if (!decide (x0_23 = 95)) then (if (decide (fW .i64 (y1_0 + 1) < (a0.length : Int))) then ((nthS a0 (fW .i64 (y1_0 + 1))).bind fun x0_37 => (g66 k x0_37 a2).bind fun x0_39 => j2 (!(decide (0 ≤ x0_39)), y1_0)) else (j2 (true, y1_0))) else (j2 (true, y1_0))) else (j2 (true, y1_0))) else (j2 (true, y1_0))) else (j2 (true, y1_0))) else (j2 (false, y1_0)))) else (j3 y1_0))) n
theorem g59_l1_s (k : Nat)  (a0 : (List Nat)) (a1 : Int) (a2 : Int) (a3 : Bool) (n : Nat) (y1_0 : Int) : g59_l1 k a0 a1 a2 a3 (n + 1) y1_0 = (jn (fun (z3 : Int) => some (fW .i64 (z3 - a1))) (fun j3 => if (decide (y1_0 < (a0.length : Int))) then ((nthS a0 y1_0).bind fun x0_2 => (g66 k x0_2 a2).bind fun x0_4 => jn (fun (z2 : Bool × Int) => if z2.1 then (j3 z2.2) else ((g59_l1 k a0 a1 a2 a3 n) (fW .i64 (z2.2 + 1)))) (fun j2 => if (decide (x0_4 < 0)) then (if a3 then ((nthS a0 y1_0).bind fun x0_11 => if (decide (x0_11 = 95)) then (if (decide (a1 < y1_0)) then ((nthS a0 (fW .i64 (y1_0 - 1))).bind fun x0_23 => if (!decide (x0_23 = 95)) then (if (decide (fW .i64 (y1_0 + 1) < (a0.length : Int))) then ((nthS a0 (fW .i64 (y1_0 + 1))).bind fun x0_37 => (g66 k x0_37 a2).bind fun x0_39 => j2 (!(decide (0 ≤ x0_39)), y1_0)) else (j2 (true, y1_0))) else (j2 (true, y1_0))) else (j2 (true, y1_0))) else (j2 (true, y1_0))) else (j2 (true, y1_0))) else (j2 (false, y1_0)))) else (j3 y1_0))) := rfl
theorem g59_l1_ok (k : Nat)  (a0 : (List Nat)) (a1 : Int) (a2 : Int) (a3 : Bool)  : ∀ (n : Nat) (y1_0 : Int), Ok X59 g59p2 [(0, .str a0), (1, .int .i64 a1), (2, .int .i64 a2), (3, .bool a3), (9, .int .i64 y1_0)] (mkH []) (g59_l1 k a0 a1 a2 a3 n y1_0)
 | 0, _ => ok_none
 | n + 1, y1_0 => by
  have ih := g59_l1_ok k a0 a1 a2 a3 n
  rw [g59_l1_s]
  refine ok_ent (p' := nav [0] g59p2) (by kernel_rfl) ?_
  let E2 : Env := [(14, .bool (decide (y1_0 < (a0.length : Int)))), (13, .int .i64 (a0.length : Int)), (12, .str a0), (11, .int .i64 y1_0), (0, .str a0), (1, .int .i64 a1), (2, .int .i64 a2), (3, .bool a3), (9, .int .i64 y1_0)]
  refine oR 8 (p' := g59p4) (eE := E2) (H' := (mkH [])) (by kernel_rfl) ?_
  refine oJ (f := fun (z3 : Int) => some (fW .i64 (z3 - a1))) g59p6 (fun (z3 : Int) => [(1, .int .i64 a1), (9, .int .i64 z3)]) (fun (z3 : Int) => (mkH [])) (fun z3 => ?_) (fun j3 hj3 => ?_)
  ·let E3 : Env := [(8, .int .i64 (fW .i64 (z3 - a1))), (63, .int .i64 (fW .i64 (z3 - a1))), (62, .int .i64 a1), (61, .int .i64 z3), (1, .int .i64 a1), (9, .int .i64 z3)]
   refine oR 7 (p' := .fin) (eE := E3) (H' := (mkH [])) (by kernel_rfl) ?_
   exact oT (r := (fW .i64 (z3 - a1))) (xs := [.int .i64 (fW .i64 (z3 - a1))]) (v := .int .i64 (fW .i64 (z3 - a1))) (by kernel_rfl) (by kernel_rfl) (by kernel_rfl) (.pures (by kernel_rfl)) (by kernel_rfl)
  ·refine oS 14 (b := decide (y1_0 < (a0.length : Int))) (by kernel_rfl) (fun hb => ?_) (fun hb => ?_)
   ·refine oR 8 (p' := (atN 2 (ctl1 g59p5))) (eE := ((16, .int .i64 y1_0) :: (15, .str a0) :: (14, .bool true) :: E2)) (H' := (mkH [])) (by kernel_rfl) ?_
    refine oH (fun (x0_2 : Int) => (.int .u8 x0_2, (mkH []))) (atN 3 (ctl1 g59p5)) (fun x0_2 => ((17, .int .u8 x0_2) :: (16, .int .i64 y1_0) :: (15, .str a0) :: (14, .bool true) :: E2)) (idxH (by kernel_rfl)) (fun _ => by kernel_rfl) (fun x0_2 hx0_2 => ?_)
    let E4 : Env := ((18, .int .i64 a2) :: (17, .int .u8 x0_2) :: (16, .int .i64 y1_0) :: (15, .str a0) :: (14, .bool true) :: E2)
    refine oR 1 (p' := (atN 4 (ctl1 g59p5))) (eE := E4) (H' := (mkH [])) (by kernel_rfl) ?_
    refine oC (fun (x0_4 : Int) => .int .i64 x0_4) (atN 5 (ctl1 g59p5)) (fun x0_4 => ((19, .int .i64 x0_4) :: E4)) (fi := 66) (args := [.int .u8 x0_2, .int .i64 a2]) (by kernel_rfl) (by kernel_rfl) (fun _ => by kernel_rfl) (fun r h => g66_ok k x0_2 a2 r h) (fun _ => by kernel_rfl) (fun x0_4 hx0_4 => ?_)
    refine oR 2 (p' := (atN 7 (ctl1 g59p5))) (eE := ((21, .bool (decide (x0_4 < 0))) :: (20, .bool (decide (x0_4 < 0))) :: (19, .int .i64 x0_4) :: E4)) (H' := (mkH [])) (by kernel_rfl) ?_
    refine oJ (f := fun (z2 : Bool × Int) => if z2.1 then (j3 z2.2) else ((g59_l1 k a0 a1 a2 a3 n) (fW .i64 (z2.2 + 1)))) g59p7 (fun (z2 : Bool × Int) => [(0, .str a0), (1, .int .i64 a1), (2, .int .i64 a2), (3, .bool a3), (9, .int .i64 z2.2), (58, .bool z2.1)]) (fun (z2 : Bool × Int) => (mkH [])) (fun z2 => ?_) (fun j2 hj2 => ?_)
    ·refine oS 58 (b := z2.1) (by kernel_rfl) (fun hb => ?_) (fun hb => ?_)
     ·let E5 : Env := [(58, .bool true), (0, .str a0), (1, .int .i64 a1), (2, .int .i64 a2), (3, .bool a3), (9, .int .i64 z2.2), (58, .bool z2.1)]
      refine oR 3 (p' := g59p6) (eE := E5) (H' := (mkH [])) (by kernel_rfl) ?_
      refine oK [1, 9] (eE := [(1, .int .i64 a1), (9, .int .i64 z2.2)]) (by kernel_rfl) ?_
      exact hj3 z2.2
     ·let E6 : Env := [(9, .int .i64 (fW .i64 (z2.2 + 1))), (60, .int .i64 (fW .i64 (z2.2 + 1))), (59, .int .i64 z2.2), (58, .bool false), (0, .str a0), (1, .int .i64 a1), (2, .int .i64 a2), (3, .bool a3), (9, .int .i64 z2.2), (58, .bool z2.1)]
      refine oR 7 (p' := g59p2) (eE := E6) (H' := (mkH [])) (by kernel_rfl) ?_
      refine oK [0, 1, 2, 3, 9] (eE := [(0, .str a0), (1, .int .i64 a1), (2, .int .i64 a2), (3, .bool a3), (9, .int .i64 (fW .i64 (z2.2 + 1)))]) (by kernel_rfl) ?_
      exact ih (fW .i64 (z2.2 + 1))
    ·refine oS 21 (b := decide (x0_4 < 0)) (by kernel_rfl) (fun hb => ?_) (fun hb => ?_)
     ·let E7 : Env := ((23, .bool a3) :: (22, .bool a3) :: (21, .bool true) :: (21, .bool (decide (x0_4 < 0))) :: (20, .bool (decide (x0_4 < 0))) :: (19, .int .i64 x0_4) :: E4)
      refine oR 2 (p' := (atN 9 (ctl1 g59p5))) (eE := E7) (H' := (mkH [])) (by kernel_rfl) ?_
      refine oS 23 (b := a3) (by kernel_rfl) (fun hb => ?_) (fun hb => ?_)
      ·refine oR 2 (p' := (atN 11 (ctl1 g59p5))) (eE := ((25, .int .i64 y1_0) :: (24, .str a0) :: (23, .bool true) :: E7)) (H' := (mkH [])) (by kernel_rfl) ?_
       refine oH (fun (x0_11 : Int) => (.int .u8 x0_11, (mkH []))) (atN 12 (ctl1 g59p5)) (fun x0_11 => ((26, .int .u8 x0_11) :: (25, .int .i64 y1_0) :: (24, .str a0) :: (23, .bool true) :: E7)) (idxH (by kernel_rfl)) (fun _ => by kernel_rfl) (fun x0_11 hx0_11 => ?_)
       let E8 : Env := ((29, .bool (decide (x0_11 = 95))) :: (28, .bool (decide (x0_11 = 95))) :: (27, .bool (decide (x0_11 = 95))) :: (26, .int .u8 x0_11) :: (25, .int .i64 y1_0) :: (24, .str a0) :: (23, .bool true) :: E7)
       refine oR 3 (p' := (atN 15 (ctl1 g59p5))) (eE := E8) (H' := (mkH [])) (by kernel_rfl) ?_
       refine oS 29 (b := decide (x0_11 = 95)) (by kernel_rfl) (fun hb => ?_) (fun hb => ?_)
       ·let E9 : Env := ((34, .bool (decide (a1 < y1_0))) :: (33, .bool (decide (a1 < y1_0))) :: (32, .bool (decide (a1 < y1_0))) :: (31, .int .i64 a1) :: (30, .int .i64 y1_0) :: (29, .bool true) :: E8)
        refine oR 5 (p' := (atN 20 (ctl1 g59p5))) (eE := E9) (H' := (mkH [])) (by kernel_rfl) ?_
        refine oS 34 (b := decide (a1 < y1_0)) (by kernel_rfl) (fun hb => ?_) (fun hb => ?_)
        ·refine oR 3 (p' := (atN 23 (ctl1 g59p5))) (eE := ((37, .int .i64 (fW .i64 (y1_0 - 1))) :: (36, .int .i64 y1_0) :: (35, .str a0) :: (34, .bool true) :: E9)) (H' := (mkH [])) (by kernel_rfl) ?_
         refine oH (fun (x0_23 : Int) => (.int .u8 x0_23, (mkH []))) (atN 24 (ctl1 g59p5)) (fun x0_23 => ((38, .int .u8 x0_23) :: (37, .int .i64 (fW .i64 (y1_0 - 1))) :: (36, .int .i64 y1_0) :: (35, .str a0) :: (34, .bool true) :: E9)) (idxH (by kernel_rfl)) (fun _ => by kernel_rfl) (fun x0_23 hx0_23 => ?_)
         let E10 : Env := ((41, .bool (!decide (x0_23 = 95))) :: (40, .bool (!decide (x0_23 = 95))) :: (39, .bool (!decide (x0_23 = 95))) :: (38, .int .u8 x0_23) :: (37, .int .i64 (fW .i64 (y1_0 - 1))) :: (36, .int .i64 y1_0) :: (35, .str a0) :: (34, .bool true) :: E9)
         refine oR 3 (p' := (atN 27 (ctl1 g59p5))) (eE := E10) (H' := (mkH [])) (by kernel_rfl) ?_
         refine oS 41 (b := !decide (x0_23 = 95)) (by kernel_rfl) (fun hb => ?_) (fun hb => ?_)
         ·let E11 : Env := ((48, .bool (decide (fW .i64 (y1_0 + 1) < (a0.length : Int)))) :: (47, .bool (decide (fW .i64 (y1_0 + 1) < (a0.length : Int)))) :: (46, .bool (decide (fW .i64 (y1_0 + 1) < (a0.length : Int)))) :: (45, .int .i64 (a0.length : Int)) :: (44, .str a0) :: (43, .int .i64 (fW .i64 (y1_0 + 1))) :: (42, .int .i64 y1_0) :: (41, .bool true) :: E10)
          refine oR 7 (p' := (atN 34 (ctl1 g59p5))) (eE := E11) (H' := (mkH [])) (by kernel_rfl) ?_
          refine oS 48 (b := decide (fW .i64 (y1_0 + 1) < (a0.length : Int))) (by kernel_rfl) (fun hb => ?_) (fun hb => ?_)
          ·refine oR 3 (p' := (atN 37 (ctl1 g59p5))) (eE := ((51, .int .i64 (fW .i64 (y1_0 + 1))) :: (50, .int .i64 y1_0) :: (49, .str a0) :: (48, .bool true) :: E11)) (H' := (mkH [])) (by kernel_rfl) ?_
           refine oH (fun (x0_37 : Int) => (.int .u8 x0_37, (mkH []))) (atN 38 (ctl1 g59p5)) (fun x0_37 => ((52, .int .u8 x0_37) :: (51, .int .i64 (fW .i64 (y1_0 + 1))) :: (50, .int .i64 y1_0) :: (49, .str a0) :: (48, .bool true) :: E11)) (idxH (by kernel_rfl)) (fun _ => by kernel_rfl) (fun x0_37 hx0_37 => ?_)
           let E12 : Env := ((53, .int .i64 a2) :: (52, .int .u8 x0_37) :: (51, .int .i64 (fW .i64 (y1_0 + 1))) :: (50, .int .i64 y1_0) :: (49, .str a0) :: (48, .bool true) :: E11)
           refine oR 1 (p' := (atN 39 (ctl1 g59p5))) (eE := E12) (H' := (mkH [])) (by kernel_rfl) ?_
           refine oC (fun (x0_39 : Int) => .int .i64 x0_39) (atN 40 (ctl1 g59p5)) (fun x0_39 => ((54, .int .i64 x0_39) :: E12)) (fi := 66) (args := [.int .u8 x0_37, .int .i64 a2]) (by kernel_rfl) (by kernel_rfl) (fun _ => by kernel_rfl) (fun r h => g66_ok k x0_37 a2 r h) (fun _ => by kernel_rfl) (fun x0_39 hx0_39 => ?_)
           let E13 : Env := ((58, .bool (!(decide (0 ≤ x0_39)))) :: (57, .bool (!(decide (0 ≤ x0_39)))) :: (56, .bool (decide (0 ≤ x0_39))) :: (55, .bool (decide (0 ≤ x0_39))) :: (54, .int .i64 x0_39) :: E12)
           refine oR 5 (p' := g59p7) (eE := E13) (H' := (mkH [])) (by kernel_rfl) ?_
           refine oK [0, 1, 2, 3, 9, 58] (eE := [(0, .str a0), (1, .int .i64 a1), (2, .int .i64 a2), (3, .bool a3), (9, .int .i64 y1_0), (58, .bool (!(decide (0 ≤ x0_39))))]) (by kernel_rfl) ?_
           exact hj2 (!(decide (0 ≤ x0_39)), y1_0)
          ·let E14 : Env := ((58, .bool true) :: (57, .bool true) :: (56, .bool false) :: (55, .tuple []) :: (54, .tuple []) :: (53, .tuple []) :: (52, .tuple []) :: (51, .tuple []) :: (50, .tuple []) :: (49, .tuple []) :: (48, .bool false) :: E11)
           refine oR 11 (p' := g59p7) (eE := E14) (H' := (mkH [])) (by kernel_rfl) ?_
           refine oK [0, 1, 2, 3, 9, 58] (eE := [(0, .str a0), (1, .int .i64 a1), (2, .int .i64 a2), (3, .bool a3), (9, .int .i64 y1_0), (58, .bool true)]) (by kernel_rfl) ?_
           exact hj2 (true, y1_0)
         ·let E15 : Env := ((58, .bool true) :: (57, .bool true) :: (56, .bool false) :: (55, .tuple []) :: (54, .tuple []) :: (53, .tuple []) :: (52, .tuple []) :: (51, .tuple []) :: (50, .tuple []) :: (49, .tuple []) :: (48, .bool false) :: (47, .bool false) :: (46, .tuple []) :: (45, .tuple []) :: (44, .tuple []) :: (43, .tuple []) :: (42, .tuple []) :: (41, .bool false) :: E10)
          refine oR 18 (p' := g59p7) (eE := E15) (H' := (mkH [])) (by kernel_rfl) ?_
          refine oK [0, 1, 2, 3, 9, 58] (eE := [(0, .str a0), (1, .int .i64 a1), (2, .int .i64 a2), (3, .bool a3), (9, .int .i64 y1_0), (58, .bool true)]) (by kernel_rfl) ?_
          exact hj2 (true, y1_0)
        ·let E16 : Env := ((58, .bool true) :: (57, .bool true) :: (56, .bool false) :: (55, .tuple []) :: (54, .tuple []) :: (53, .tuple []) :: (52, .tuple []) :: (51, .tuple []) :: (50, .tuple []) :: (49, .tuple []) :: (48, .bool false) :: (47, .bool false) :: (46, .tuple []) :: (45, .tuple []) :: (44, .tuple []) :: (43, .tuple []) :: (42, .tuple []) :: (41, .bool false) :: (40, .bool false) :: (39, .tuple []) :: (38, .tuple []) :: (37, .tuple []) :: (36, .tuple []) :: (35, .tuple []) :: (34, .bool false) :: E9)
         refine oR 25 (p' := g59p7) (eE := E16) (H' := (mkH [])) (by kernel_rfl) ?_
         refine oK [0, 1, 2, 3, 9, 58] (eE := [(0, .str a0), (1, .int .i64 a1), (2, .int .i64 a2), (3, .bool a3), (9, .int .i64 y1_0), (58, .bool true)]) (by kernel_rfl) ?_
         exact hj2 (true, y1_0)
       ·let E17 : Env := ((58, .bool true) :: (57, .bool true) :: (56, .bool false) :: (55, .tuple []) :: (54, .tuple []) :: (53, .tuple []) :: (52, .tuple []) :: (51, .tuple []) :: (50, .tuple []) :: (49, .tuple []) :: (48, .bool false) :: (47, .bool false) :: (46, .tuple []) :: (45, .tuple []) :: (44, .tuple []) :: (43, .tuple []) :: (42, .tuple []) :: (41, .bool false) :: (40, .bool false) :: (39, .tuple []) :: (38, .tuple []) :: (37, .tuple []) :: (36, .tuple []) :: (35, .tuple []) :: (34, .bool false) :: (33, .bool false) :: (32, .tuple []) :: (31, .tuple []) :: (30, .tuple []) :: (29, .bool false) :: E8)
        refine oR 30 (p' := g59p7) (eE := E17) (H' := (mkH [])) (by kernel_rfl) ?_
        refine oK [0, 1, 2, 3, 9, 58] (eE := [(0, .str a0), (1, .int .i64 a1), (2, .int .i64 a2), (3, .bool a3), (9, .int .i64 y1_0), (58, .bool true)]) (by kernel_rfl) ?_
        exact hj2 (true, y1_0)
      ·let E18 : Env := ((58, .bool true) :: (57, .bool true) :: (56, .bool false) :: (55, .tuple []) :: (54, .tuple []) :: (53, .tuple []) :: (52, .tuple []) :: (51, .tuple []) :: (50, .tuple []) :: (49, .tuple []) :: (48, .bool false) :: (47, .bool false) :: (46, .tuple []) :: (45, .tuple []) :: (44, .tuple []) :: (43, .tuple []) :: (42, .tuple []) :: (41, .bool false) :: (40, .bool false) :: (39, .tuple []) :: (38, .tuple []) :: (37, .tuple []) :: (36, .tuple []) :: (35, .tuple []) :: (34, .bool false) :: (33, .bool false) :: (32, .tuple []) :: (31, .tuple []) :: (30, .tuple []) :: (29, .bool false) :: (28, .bool false) :: (27, .tuple []) :: (26, .tuple []) :: (25, .tuple []) :: (24, .tuple []) :: (23, .bool false) :: E7)
       refine oR 36 (p' := g59p7) (eE := E18) (H' := (mkH [])) (by kernel_rfl) ?_
       refine oK [0, 1, 2, 3, 9, 58] (eE := [(0, .str a0), (1, .int .i64 a1), (2, .int .i64 a2), (3, .bool a3), (9, .int .i64 y1_0), (58, .bool true)]) (by kernel_rfl) ?_
       exact hj2 (true, y1_0)
     ·let E19 : Env := ((58, .bool false) :: (57, .tuple []) :: (56, .tuple []) :: (55, .tuple []) :: (54, .tuple []) :: (53, .tuple []) :: (52, .tuple []) :: (51, .tuple []) :: (50, .tuple []) :: (49, .tuple []) :: (48, .tuple []) :: (47, .tuple []) :: (46, .tuple []) :: (45, .tuple []) :: (44, .tuple []) :: (43, .tuple []) :: (42, .tuple []) :: (41, .tuple []) :: (40, .tuple []) :: (39, .tuple []) :: (38, .tuple []) :: (37, .tuple []) :: (36, .tuple []) :: (35, .tuple []) :: (34, .tuple []) :: (33, .tuple []) :: (32, .tuple []) :: (31, .tuple []) :: (30, .tuple []) :: (29, .tuple []) :: (28, .tuple []) :: (27, .tuple []) :: (26, .tuple []) :: (25, .tuple []) :: (24, .tuple []) :: (23, .tuple []) :: (22, .tuple []) :: (21, .bool false) :: (21, .bool (decide (x0_4 < 0))) :: (20, .bool (decide (x0_4 < 0))) :: (19, .int .i64 x0_4) :: E4)
      refine oR 38 (p' := g59p7) (eE := E19) (H' := (mkH [])) (by kernel_rfl) ?_
      refine oK [0, 1, 2, 3, 9, 58] (eE := [(0, .str a0), (1, .int .i64 a1), (2, .int .i64 a2), (3, .bool a3), (9, .int .i64 y1_0), (58, .bool false)]) (by kernel_rfl) ?_
      exact hj2 (false, y1_0)
   ·refine oR 3 (p' := g59p6) (eE := ((14, .bool false) :: E2)) (H' := (mkH [])) (by kernel_rfl) ?_
    refine oK [1, 9] (eE := [(1, .int .i64 a1), (9, .int .i64 y1_0)]) (by kernel_rfl) ?_
    exact hj3 y1_0
def g59 (k : Nat) (a0 : (List Nat)) (a1 : Int) (a2 : Int) (a3 : Bool) : Option Int :=
 g59_l1 k a0 a1 a2 a3 k a1
theorem g59_ok (k : Nat) (a0 : (List Nat)) (a1 : Int) (a2 : Int) (a3 : Bool) (r : Int) (h : g59 k a0 a1 a2 a3 = some r) : PureOk Try.prog 59 [.str a0, .int .i64 a1, .int .i64 a2, .bool a3] (.int .i64 r) := by
 refine pure_of X59 (fun _ => rfl) Try.func59 (by decide +kernel) (by kernel_rfl) (t := g59 k a0 a1 a2 a3) ?_ h
 unfold g59
 refine oE (eE := [(0, .str a0), (1, .int .i64 a1), (2, .int .i64 a2), (3, .bool a3)]) (by kernel_rfl) ?_
 let E1 : Env := [(9, .int .i64 a1), (10, .int .i64 a1), (8, .int .i64 0), (0, .str a0), (1, .int .i64 a1), (2, .int .i64 a2), (3, .bool a3)]
 refine oR 12 (p' := g59p2) (eE := E1) (H' := (mkH [])) (by kernel_rfl) ?_
 refine oK [0, 1, 2, 3, 9] (eE := [(0, .str a0), (1, .int .i64 a1), (2, .int .i64 a2), (3, .bool a3), (9, .int .i64 a1)]) (by kernel_rfl) ?_
 exact (g59_l1_ok k a0 a1 a2 a3 k) a1
end
end Go.Proofs.Ytokcjgjgojlhbaa.Am
set_option maxRecDepth 100000
set_option linter.unusedVariables false
set_option linter.unusedSimpArgs false
namespace Go.Proofs.Ytokcjgjgojlhbaa.Am
open Go
def dgN (c : Nat) : Nat := if 48 ≤ c ∧ c ≤ 57 then c - 48 else if 97 ≤ c ∧ c ≤ 122 then c - 87 else if 65 ≤ c ∧ c ≤ 90 then c - 55 else 99
def isD (b : Nat) (s : List Nat) : Bool := match s with | d :: _ => decide (dgN d < b) | [] => false
theorem isD_nil (b : Nat) : isD b [] = false := rfl
theorem isD_cons (b d : Nat) (r : List Nat) : isD b (d :: r) = decide (dgN d < b) := rfl
def runN (b : Nat) : Bool → List Nat → Nat
 | _, [] => 0
 | p, c :: r => if dgN c < b then runN b true r + 1 else if p && decide (c = 95) && isD b r then runN b false r + 1 else 0
theorem runN_cons (b : Nat) (p : Bool) (c : Nat) (r : List Nat) : runN b p (c :: r) = if dgN c < b then runN b true r + 1 else if p && decide (c = 95) && isD b r then runN b false r + 1 else 0 := rfl
def barN (b : Nat) : List Nat → Nat
 | [] => 0
 | c :: r => if dgN c < b then barN b r + 1 else 0
theorem dg_le (c : Nat) : dgN c ≤ 99 := by unfold dgN; repeat' split
                                           all_goals omega
theorem runN_le (b : Nat) : ∀ (p : Bool) (s : List Nat), runN b p s ≤ s.length
 | _, [] => Nat.le_refl _
 | p, c :: r => by
  have h1 := runN_le b true r
  have h2 := runN_le b false r
  simp only [runN, List.length_cons]
  repeat' split
  all_goals omega
theorem barN_le (b : Nat) : ∀ (s : List Nat), barN b s ≤ s.length
 | [] => Nat.le_refl _
 | c :: r => by
  have h1 := barN_le b r
  simp only [barN, List.length_cons]
  split <;> omega
theorem dg_95 : dgN 95 = 99 := by decide
theorem digit_at (k : Nat) {c : Nat} (h : c < 256) : g63 k (c : Int) = some ((dgN c : Nat) : Int) := by
 have w := byteAll (f := fun c => decide (g63 0 (c : Int) = some ((dgN c : Nat) : Int))) (by decide +kernel) h
 exact of_decide_eq_true w
theorem bare_l (k : Nat) {s : List Nat} (hs : By s) (hl : Sz s) : ∀ (f i : Nat), s.length < i + f → i ≤ s.length → g65_l1 k s f (i : Int) = some ((i + barN 10 (s.drop i) : Nat) : Int)
 | 0, i, h, h2 => by omega
 | f + 1, i, h, h2 => by
  unfold Sz at hl
  rw [g65_l1_s]
  rcases Nat.lt_or_ge i s.length with hi | hi
  ·obtain ⟨c, r, hc, hr, hm, hrl⟩ := dcons hi
   have ih := bare_l k hs hl f (i + 1) (by omega) (by omega)
   rw [hr] at ih
   simp (disch := omega) only [↓reduceIte, ↓jn, gsL, nthX rfl hc, digit_at k (hs c hm), hc, barN]
   by_cases hd : dgN c < 10
   ·have e : ((i : Int) + 1) = ((i + 1 : Nat) : Int) := by push_cast; rfl
    simp (disch := omega) only [↓reduceIte, ↓jn, gsL, hd, e, ih, Nat.add_assoc, Nat.add_comm 1]
   ·simp (disch := omega) only [↓reduceIte, ↓jn, gsL, hd, Nat.add_zero]
  ·simp (disch := omega) only [↓reduceIte, ↓jn, gsL, dnil hi, barN, Nat.add_zero]
theorem bare_at {k : Nat} {s : List Nat} (hk : s.length < k) (hs : By s) (hl : Sz s) : g65 k s = some ((barN 10 s : Nat) : Int) := by
 have := bare_l k hs hl k 0 (by omega) (by omega)
 rw [Nat.zero_add] at this
 exact this
theorem run_l (k : Nat) {s : List Nat} (hs : By s) (hl : Sz s) {b : Nat} (hb : b ≤ 99) : ∀ (f i : Nat), s.length < i + f → i ≤ s.length →
 g64_l2 k s (b : Int) f (i : Int) (i : Int) = some ((i + runN b (decide (0 < i)) (s.drop i) : Nat) : Int) ∧
 (∀ j, j + 1 = i → 0 < j → g64_l2 k s (b : Int) f (j : Int) (i : Int) = some ((if isD b (s.drop i) then i + runN b false (s.drop i) else j : Nat) : Int))
 | 0, i, h, h2 => by omega
 | f + 1, i, h, h2 => by
  unfold Sz at hl
  rw [g64_l2_s]
  rcases Nat.lt_or_ge i s.length with hi | hi
  ·obtain ⟨c, r, hc, hr, hm, hrl⟩ := dcons hi
   obtain ⟨ih1, ih2⟩ := run_l k hs hl hb f (i + 1) (by omega) (by omega)
   rw [hr, decide_eq_true (Nat.succ_pos i)] at ih1
   rw [hr] at ih2
   have e : ((i : Int) + 1) = ((i + 1 : Nat) : Int) := by push_cast; rfl
   by_cases hd : dgN c < b
   ·refine ⟨?_, fun j hj hj0 => ?_⟩
    ·simp (disch := omega) only [↓reduceIte, ↓jn, gsL, nthX rfl hc, digit_at k (hs c hm), hc, runN, isD_cons, isD_nil, hd, e, ih1, Nat.add_assoc, Nat.add_comm 1]
    ·rw [g64_l2_s]
     simp (disch := omega) only [↓reduceIte, ↓jn, gsL, nthX rfl hc, digit_at k (hs c hm), hc, runN, isD_cons, isD_nil, hd, e, ih1, Nat.add_assoc, Nat.add_comm 1]
   ·by_cases h95 : c = 95
    ·subst h95
     refine ⟨?_, fun j hj hj0 => ?_⟩
     ·by_cases h0 : i = 0
      ·subst h0
       simp (disch := omega) only [↓reduceIte, ↓jn, gsL, nthX rfl hc, digit_at k (hs _ hm), hc, runN, isD_cons, isD_nil, hd, e, Nat.add_zero, Bool.false_and]
      ·have := ih2 i rfl (by omega)
       simp (disch := omega) only [↓reduceIte, ↓jn, gsL, nthX rfl hc, digit_at k (hs _ hm), hc, runN, isD_cons, isD_nil, hd, e, this]
       split
       ·congr 1; omega
       ·rfl
     ·rw [g64_l2_s]
      simp (disch := omega) only [↓reduceIte, ↓jn, gsL, nthX rfl hc, digit_at k (hs _ hm), hc, runN, isD_cons, isD_nil, hd, e]
    ·refine ⟨?_, fun j hj hj0 => ?_⟩
     ·simp (disch := omega) only [↓reduceIte, ↓jn, gsL, nthX rfl hc, digit_at k (hs c hm), hc, runN, isD_cons, isD_nil, hd, e, Bool.and_false, Bool.false_and, Nat.add_zero]
     ·rw [g64_l2_s]
      simp (disch := omega) only [↓reduceIte, ↓jn, gsL, nthX rfl hc, digit_at k (hs c hm), hc, runN, isD_cons, isD_nil, hd, e]
  ·refine ⟨?_, fun j hj hj0 => ?_⟩
   ·simp (disch := omega) only [↓reduceIte, ↓jn, gsL, dnil hi, runN, isD_nil, Nat.add_zero]
   ·rw [g64_l2_s]
    simp (disch := omega) only [↓reduceIte, ↓jn, gsL, dnil hi, runN, isD_nil, Nat.add_zero]
theorem run_at {k : Nat} {s : List Nat} (hk : s.length < k) (hs : By s) (hl : Sz s) {b : Nat} (hb : b ≤ 99) : g64 k s (b : Int) = some ((runN b false s : Nat) : Int) := by
 have := (run_l k hs hl hb k 0 (by omega) (by omega)).1
 rw [Nat.zero_add, decide_eq_false (by omega)] at this
 exact this
theorem value_at (k : Nat) {c b : Nat} (h : c < 256) (hb : b ≤ 99) : g66 k (c : Int) (b : Int) = some (if dgN c < b then ((dgN c : Nat) : Int) else -1) := by
 have w := byteAll (f := fun c => decide (g66 0 (c : Int) 99 = some (if dgN c < 99 then ((dgN c : Nat) : Int) else -1))) (by decide +kernel) h
 have w : g66 k (c : Int) 99 = some (if dgN c < 99 then ((dgN c : Nat) : Int) else -1) := of_decide_eq_true w
 have hd := dg_le c
 unfold g66 at w ⊢
 revert w
 generalize g42 k (c : Int) = D
 generalize fW .i64 (fW .u8 ((c : Int) - 48)) = A
 generalize fW .i64 (fW .i64 (fW .u8 ((c : Int) - 97)) + 10) = B
 generalize fW .i64 (fW .i64 (fW .u8 ((c : Int) - 65)) + 10) = C
 have key : ∀ x : Int, (if decide ((99 : Int) ≤ x) then some (-1 : Int) else some x) = some (if dgN c < 99 then ((dgN c : Nat) : Int) else -1) → (if decide ((b : Int) ≤ x) then some (-1 : Int) else some x) = some (if dgN c < b then ((dgN c : Nat) : Int) else -1) := by
  intro x hx
  by_cases h1 : (99 : Int) ≤ x
  ·rw [decide_eq_true h1, if_pos rfl] at hx
   have := Option.some.inj hx
   rw [decide_eq_true (by omega : (b : Int) ≤ x), if_pos rfl]
   split at this
   ·omega
   ·rw [if_neg (by omega)]
  ·rw [decide_eq_false h1, if_neg (by decide)] at hx
   have := Option.some.inj hx
   by_cases h2 : (b : Int) ≤ x
   ·rw [decide_eq_true h2, if_pos rfl]
    split at this
    ·rw [if_neg (by omega)]
    ·omega
   ·rw [decide_eq_false h2, if_neg (by decide), this]
    split at this
    ·rw [if_pos (by omega), if_pos (by omega)]
    ·rw [if_neg (by omega), if_neg (by omega)]
 cases D with
 | none => intro w; cases w
 | some d =>
  have m1 := key (-1)
  have m2 := key A
  have m3 := key B
  have m4 := key C
  simp only [Option.bind_some, jn]
  generalize decide (65 ≤ (c : Int)) = p1
  generalize decide ((c : Int) ≤ 90) = p2
  generalize decide (97 ≤ (c : Int)) = p3
  generalize decide ((c : Int) ≤ 122) = p4
  cases d <;> cases p1 <;> cases p2 <;> cases p3 <;> cases p4 <;> first | exact m1 | exact m2 | exact m3 | exact m4
theorem rrun_l (k : Nat) {s : List Nat} (hs : By s) (hl : Sz s) {b : Nat} (hb : b ≤ 99) (a : Nat) : ∀ (f i : Nat), s.length < i + f → i ≤ s.length → a ≤ i → ∀ p : Bool, (p = true ↔ a < i ∧ ∃ c r, s.drop (i - 1) = c :: r ∧ c ≠ 95) →
 g59_l1 k s (a : Int) (b : Int) true f (i : Int) = some ((i - a + runN b p (s.drop i) : Nat) : Int)
 | 0, i, h, h2, h3, p, hp => by omega
 | f + 1, i, h, h2, h3, p, hp => by
  unfold Sz at hl
  rw [g59_l1_s]
  rcases Nat.lt_or_ge i s.length with hi | hi
  ·obtain ⟨c, r, hc, hr, hm, hrl⟩ := dcons hi
   have ih := rrun_l k hs hl hb a f (i + 1) (by omega) (by omega) (by omega)
   rw [hr] at ih
   have e : ((i : Int) + 1) = ((i + 1 : Nat) : Int) := by push_cast; rfl
   by_cases hd : dgN c < b
   ·have c95 : c ≠ 95 := by intro h; rw [h, dg_95] at hd; omega
    have := ih true ⟨fun _ => ⟨by omega, c, r, by simpa using hc, c95⟩, fun _ => rfl⟩
    simp (disch := omega) only [↓reduceIte, ↓jn, gsL, nthX rfl hc, value_at k (hs c hm) hb, hc, runN_cons, hd, e, this]
    exact sn (by omega)
   ·have out : ∀ x : Nat, x = 0 → some ((i : Int) - (a : Int)) = some (((i - a + x : Nat)) : Int) := by
     intro x hx; subst hx; congr 1; omega
    by_cases h95 : c = 95
    ·subst h95
     cases p with
     | true =>
      obtain ⟨ha, c', r', hc', hne⟩ := hp.1 rfl
      have hx : (i : Int) - 1 = ((i - 1 : Nat) : Int) := by omega
      have hne' : ¬ ((c' : Int) = 95) := by omega
      cases r with
      | nil =>
       simp only [List.length_nil] at hrl
       simp (disch := omega) only [↓reduceIte, ↓jn, gsL, nthX rfl hc, value_at k (hs _ hm) hb, hc, runN_cons, hd, nthX hx hc', hne', isD_nil]
       exact out _ rfl
      | cons d r =>
       simp only [List.length_cons] at hrl
       have d256 : d < 256 := by
        have := hs.drop i; rw [hc] at this; exact this d (by simp)
       by_cases hdd : dgN d < b
       ·have hq : false = true ↔ a < i + 1 ∧ ∃ c r, s.drop (i + 1 - 1) = c :: r ∧ c ≠ 95 := by
         constructor
         ·intro h; cases h
         ·rintro ⟨-, c, r, h1, h2⟩
          rw [Nat.add_sub_cancel, hc] at h1
          exact absurd (List.cons.inj h1).1.symm h2
        have := ih false hq
        simp (disch := omega) only [↓reduceIte, ↓jn, gsL, nthX rfl hc, value_at k (hs _ hm) hb, value_at k d256 hb, hc, runN_cons, hd, nthX hx hc', nthX e hr, nthX rfl hr, hne', isD_cons, hdd, e, this]
        exact sn (by omega)
       ·simp (disch := omega) only [↓reduceIte, ↓jn, gsL, nthX rfl hc, value_at k (hs _ hm) hb, value_at k d256 hb, hc, runN_cons, hd, nthX hx hc', nthX e hr, nthX rfl hr, hne', isD_cons, hdd]
        exact out _ rfl
     | false =>
      by_cases ha : a < i
      ·obtain ⟨c', r', hc', hr', hm', -⟩ := dcons (s := s) (i := i - 1) (by omega)
       have hx : (i : Int) - 1 = ((i - 1 : Nat) : Int) := by omega
       have h95' : c' = 95 := by
        rcases Nat.lt_or_ge c' 95 with h | h
        ·exact absurd (hp.2 ⟨ha, c', r', hc', by omega⟩) (by decide)
        ·rcases Nat.lt_or_ge 95 c' with h | h
         ·exact absurd (hp.2 ⟨ha, c', r', hc', by omega⟩) (by decide)
         ·omega
       subst h95'
       simp (disch := omega) only [↓reduceIte, ↓jn, gsL, nthX rfl hc, value_at k (hs _ hm) hb, hc, runN_cons, hd, nthX hx hc']
       exact out _ rfl
      ·simp (disch := omega) only [↓reduceIte, ↓jn, gsL, nthX rfl hc, value_at k (hs _ hm) hb, hc, runN_cons, hd]
       exact out _ rfl
    ·simp (disch := omega) only [↓reduceIte, ↓jn, gsL, nthX rfl hc, value_at k (hs _ hm) hb, hc, runN_cons, hd]
     exact out _ rfl
  ·simp (disch := omega) only [↓reduceIte, ↓jn, gsL, dnil hi, runN]
   congr 1; omega
theorem rrun_at {k : Nat} {s : List Nat} (hk : s.length < k) (hs : By s) (hl : Sz s) {b : Nat} (hb : b ≤ 99) {a : Nat} (ha : a ≤ s.length) : g59 k s (a : Int) (b : Int) true = some ((runN b false (s.drop a) : Nat) : Int) := by
 have := rrun_l k hs hl hb a k a (by omega) ha (Nat.le_refl _) false ⟨fun h => (by cases h), fun ⟨h, _⟩ => absurd h (Nat.lt_irrefl _)⟩
 rw [Nat.sub_self, Nat.zero_add] at this
 exact this
theorem rbar_l (k : Nat) {s : List Nat} (hs : By s) (hl : Sz s) (a : Nat) : ∀ (f i : Nat), s.length < i + f → i ≤ s.length → a ≤ i →
 g59_l1 k s (a : Int) 10 false f (i : Int) = some ((i - a + barN 10 (s.drop i) : Nat) : Int)
 | 0, i, h, h2, h3 => by omega
 | f + 1, i, h, h2, h3 => by
  unfold Sz at hl
  rw [g59_l1_s]
  rcases Nat.lt_or_ge i s.length with hi | hi
  ·obtain ⟨c, r, hc, hr, hm, hrl⟩ := dcons hi
   have ih := rbar_l k hs hl a f (i + 1) (by omega) (by omega) (by omega)
   rw [hr] at ih
   have e : ((i : Int) + 1) = ((i + 1 : Nat) : Int) := by push_cast; rfl
   have v := value_at k (b := 10) (hs c hm) (by decide)
   have v : g66 k (c : Int) 10 = some (if dgN c < 10 then ((dgN c : Nat) : Int) else -1) := v
   by_cases hd : dgN c < 10
   ·simp (disch := omega) only [↓reduceIte, ↓jn, gsL, nthX rfl hc, v, hc, barN, hd, e, ih]
    exact sn (by omega)
   ·simp (disch := omega) only [↓reduceIte, ↓jn, gsL, nthX rfl hc, v, hc, barN, hd]
    congr 1; omega
  ·simp (disch := omega) only [↓reduceIte, ↓jn, gsL, dnil hi, barN]
   congr 1; omega
theorem rbar_at {k : Nat} {s : List Nat} (hk : s.length < k) (hs : By s) (hl : Sz s) {a : Nat} (ha : a ≤ s.length) : g59 k s (a : Int) 10 false = some ((barN 10 (s.drop a) : Nat) : Int) := by
 have := rbar_l k hs hl a k a (by omega) ha (Nat.le_refl _)
 rw [Nat.sub_self, Nat.zero_add] at this
 exact this
end Go.Proofs.Ytokcjgjgojlhbaa.Am
set_option maxRecDepth 100000
set_option linter.unusedVariables false
namespace Go.Proofs.Ytokcjgjgojlhbaa.Am
noncomputable section
open Go
def X57 : Fx (Int × Int) := ⟨Try.prog, cx, Try.f57, fun r => .tuple [.int .i64 r.1, .int .i64 r.2], 0, fun _ => H0, cxTi, cxOrd⟩
def g57p0 : Pt := nav [0] (bodyAt Try.f57)
def g57p1 : Pt := nav [0, 0, 0] g57p0
def g57p2 : Pt := nav [0, 0, 0, 0] g57p1
def g57p3 : Pt := nav [0, 0] g57p2
def g57p5 : Pt := nav [2, 0, 0] g57p3
def g57p7 : Pt := nav [0, 0, 0, 0] g57p5
def g57p8 : Pt := nav [0, 0, 0, 0] g57p7
def g57p9 : Pt := nav [0, 0] g57p8
def g57p10 : Pt := nav [0, 0, 0] g57p9
def g57p11 : Pt := nav [1, 0, 0, 0, 0] g57p10
def g57p12 : Pt := nav [2, 0, 0, 0] g57p10
def g57p13 : Pt := nav [0, 0, 0] g57p11
def g57p14 : Pt := nav [0, 0] g57p12
def g57p15 : Pt := nav [0, 0, 0] g57p13
def g57p18 : Pt := nav [0, 0] g57p15
def g57_l4 (k : Nat)  (a0 : (List Nat)) (x0_1 : Int) (n : Nat) : Int → Int → Option (Int × Int) :=
 Nat.rec (motive := fun _ => Int → Int → Option (Int × Int)) (fun _ _ => none) (fun _ ih => fun (y4_0 : Int) (y4_1 : Int) => if (decide (y4_1 < x0_1)) then ((nthS a0 y4_1).bind fun x2_4 => (g63 k x2_4).bind fun x2_5 => if (decide (36 < fW .i64 (fW .i64 (10 * y4_0) + x2_5))) then (some ((0 : Int), (10 : Int))) else (ih (fW .i64 (fW .i64 (10 * y4_0) + x2_5)) (fW .i64 (y4_1 + 1)))) else (if (decide (y4_0 < 2)) then (some ((0 : Int), (10 : Int))) else (some (fW .i64 (x0_1 + 1), y4_0)))) n
theorem g57_l4_s (k : Nat)  (a0 : (List Nat)) (x0_1 : Int) (n : Nat) (y4_0 : Int) (y4_1 : Int) : g57_l4 k a0 x0_1 (n + 1) y4_0 y4_1 = (if (decide (y4_1 < x0_1)) then ((nthS a0 y4_1).bind fun x2_4 => (g63 k x2_4).bind fun x2_5 => if (decide (36 < fW .i64 (fW .i64 (10 * y4_0) + x2_5))) then (some ((0 : Int), (10 : Int))) else ((g57_l4 k a0 x0_1 n) (fW .i64 (fW .i64 (10 * y4_0) + x2_5)) (fW .i64 (y4_1 + 1)))) else (if (decide (y4_0 < 2)) then (some ((0 : Int), (10 : Int))) else (some (fW .i64 (x0_1 + 1), y4_0)))) := rfl
theorem g57_l4_ok (k : Nat)  (a0 : (List Nat)) (x0_1 : Int)  : ∀ (n : Nat) (y4_0 : Int) (y4_1 : Int), Ok X57 g57p8 [(0, .str a0), (4, .int .i64 x0_1), (5, .int .i64 y4_0), (27, .int .i64 x0_1), (28, .int .i64 y4_1)] (mkH []) (g57_l4 k a0 x0_1 n y4_0 y4_1)
 | 0, _, _ => ok_none
 | n + 1, y4_0, y4_1 => by
  have ih := g57_l4_ok k a0 x0_1 n
  rw [g57_l4_s]
  refine ok_ent (p' := nav [0] g57p8) (by kernel_rfl) ?_
  let E4 : Env := [(29, .bool (decide (y4_1 < x0_1))), (0, .str a0), (4, .int .i64 x0_1), (5, .int .i64 y4_0), (27, .int .i64 x0_1), (28, .int .i64 y4_1)]
  refine oR 5 (p' := g57p10) (eE := E4) (H' := (mkH [])) (by kernel_rfl) ?_
  refine oS 29 (b := decide (y4_1 < x0_1)) (by kernel_rfl) (fun hb => ?_) (fun hb => ?_)
  ·let E5 : Env := ((34, .int .i64 y4_1) :: (33, .str a0) :: (32, .int .i64 (fW .i64 (10 * y4_0))) :: (31, .int .i64 y4_0) :: (6, .int .i64 y4_1) :: (30, .int .i64 y4_1) :: (29, .bool true) :: E4)
   refine oR 15 (p' := (atN 4 (ctl1 g57p13))) (eE := E5) (H' := (mkH [])) (by kernel_rfl) ?_
   refine oH (fun (x2_4 : Int) => (.int .u8 x2_4, (mkH []))) (atN 5 (ctl1 g57p13)) (fun x2_4 => ((35, .int .u8 x2_4) :: E5)) (idxH (by kernel_rfl)) (fun _ => by kernel_rfl) (fun x2_4 hx2_4 => ?_)
   refine oC (fun (x2_5 : Int) => .int .i64 x2_5) (atN 6 (ctl1 g57p13)) (fun x2_5 => ((36, .int .i64 x2_5) :: (35, .int .u8 x2_4) :: E5)) (fi := 63) (args := [.int .u8 x2_4]) (by kernel_rfl) (by kernel_rfl) (fun _ => by kernel_rfl) (fun r h => g63_ok k x2_4 r h) (fun _ => by kernel_rfl) (fun x2_5 hx2_5 => ?_)
   refine oR 4 (p' := g57p15) (eE := ((5, .int .i64 (fW .i64 (fW .i64 (10 * y4_0) + x2_5))) :: (37, .int .i64 (fW .i64 (fW .i64 (10 * y4_0) + x2_5))) :: (36, .int .i64 x2_5) :: (35, .int .u8 x2_4) :: E5)) (H' := (mkH [])) (by kernel_rfl) ?_
   refine oK [0, 4, 5, 27, 28] (eE := [(0, .str a0), (4, .int .i64 x0_1), (5, .int .i64 (fW .i64 (fW .i64 (10 * y4_0) + x2_5))), (27, .int .i64 x0_1), (28, .int .i64 y4_1)]) (by kernel_rfl) ?_
   let E6 : Env := [(39, .bool (decide (36 < fW .i64 (fW .i64 (10 * y4_0) + x2_5)))), (38, .int .i64 (fW .i64 (fW .i64 (10 * y4_0) + x2_5))), (0, .str a0), (4, .int .i64 x0_1), (5, .int .i64 (fW .i64 (fW .i64 (10 * y4_0) + x2_5))), (27, .int .i64 x0_1), (28, .int .i64 y4_1)]
   refine oR 4 (p' := g57p18) (eE := E6) (H' := (mkH [])) (by kernel_rfl) ?_
   refine oS 39 (b := decide (36 < fW .i64 (fW .i64 (10 * y4_0) + x2_5))) (by kernel_rfl) (fun hb => ?_) (fun hb => ?_)
   ·refine oR 7 (p' := .fin) (eE := ((3, .int .i64 10) :: (2, .int .i64 0) :: (39, .bool true) :: E6)) (H' := (mkH [])) (by kernel_rfl) ?_
    exact oT (r := ((0 : Int), (10 : Int))) (xs := [.int .i64 0, .int .i64 10]) (v := .tuple [.int .i64 0, .int .i64 10]) (by kernel_rfl) (by kernel_rfl) (by kernel_rfl) (.pures (by kernel_rfl)) (by kernel_rfl)
   ·refine oR 6 (p' := g57p8) (eE := ((28, .int .i64 (fW .i64 (y4_1 + 1))) :: (40, .int .i64 (fW .i64 (y4_1 + 1))) :: (39, .bool false) :: E6)) (H' := (mkH [])) (by kernel_rfl) ?_
    refine oK [0, 4, 5, 27, 28] (eE := [(0, .str a0), (4, .int .i64 x0_1), (5, .int .i64 (fW .i64 (fW .i64 (10 * y4_0) + x2_5))), (27, .int .i64 x0_1), (28, .int .i64 (fW .i64 (y4_1 + 1)))]) (by kernel_rfl) ?_
    exact ih (fW .i64 (fW .i64 (10 * y4_0) + x2_5)) (fW .i64 (y4_1 + 1))
  ·refine oR 8 (p' := g57p14) (eE := ((42, .bool (decide (y4_0 < 2))) :: (41, .int .i64 y4_0) :: (29, .bool false) :: E4)) (H' := (mkH [])) (by kernel_rfl) ?_
   refine oS 42 (b := decide (y4_0 < 2)) (by kernel_rfl) (fun hb => ?_) (fun hb => ?_)
   ·let E7 : Env := ((3, .int .i64 10) :: (2, .int .i64 0) :: (42, .bool true) :: (42, .bool (decide (y4_0 < 2))) :: (41, .int .i64 y4_0) :: (29, .bool false) :: E4)
    refine oR 7 (p' := .fin) (eE := E7) (H' := (mkH [])) (by kernel_rfl) ?_
    exact oT (r := ((0 : Int), (10 : Int))) (xs := [.int .i64 0, .int .i64 10]) (v := .tuple [.int .i64 0, .int .i64 10]) (by kernel_rfl) (by kernel_rfl) (by kernel_rfl) (.pures (by kernel_rfl)) (by kernel_rfl)
   ·let E8 : Env := ((3, .int .i64 y4_0) :: (2, .int .i64 (fW .i64 (x0_1 + 1))) :: (45, .int .i64 y4_0) :: (44, .int .i64 (fW .i64 (x0_1 + 1))) :: (43, .int .i64 x0_1) :: (42, .bool false) :: (42, .bool (decide (y4_0 < 2))) :: (41, .int .i64 y4_0) :: (29, .bool false) :: E4)
    refine oR 11 (p' := .fin) (eE := E8) (H' := (mkH [])) (by kernel_rfl) ?_
    exact oT (r := (fW .i64 (x0_1 + 1), y4_0)) (xs := [.int .i64 (fW .i64 (x0_1 + 1)), .int .i64 y4_0]) (v := .tuple [.int .i64 (fW .i64 (x0_1 + 1)), .int .i64 y4_0]) (by kernel_rfl) (by kernel_rfl) (by kernel_rfl) (.pures (by kernel_rfl)) (by kernel_rfl)
def g57 (k : Nat) (a0 : (List Nat)) : Option (Int × Int) :=
 (g65 k a0).bind fun x0_1 => jn (fun (z3 : Bool) => if z3 then (some ((0 : Int), (10 : Int))) else (g57_l4 k a0 x0_1 k 0 0)) (fun j3 => if (decide (x0_1 < 1)) then (j3 true) else (if (decide (2 < x0_1)) then (j3 true) else (if (decide ((a0.length : Int) ≤ x0_1)) then (j3 true) else ((nthS a0 x0_1).bind fun x1_15 => j3 (!decide (x1_15 = 35))))))
theorem g57_ok (k : Nat) (a0 : (List Nat)) (r : (Int × Int)) (h : g57 k a0 = some r) : PureOk Try.prog 57 [.str a0] (.tuple [.int .i64 r.1, .int .i64 r.2]) := by
 refine pure_of X57 (fun _ => rfl) Try.func57 (by decide +kernel) (by kernel_rfl) (t := g57 k a0) ?_ h
 unfold g57
 refine oE (eE := [(0, .str a0)]) (by kernel_rfl) ?_
 refine oR 8 (p' := (atN 1 (ctl1 g57p1))) (eE := [(7, .str a0), (3, .int .i64 0), (2, .int .i64 0), (0, .str a0)]) (H' := (mkH [])) (by kernel_rfl) ?_
 refine oC (fun (x0_1 : Int) => .int .i64 x0_1) (atN 2 (ctl1 g57p1)) (fun x0_1 => [(8, .int .i64 x0_1), (7, .str a0), (3, .int .i64 0), (2, .int .i64 0), (0, .str a0)]) (fi := 65) (args := [.str a0]) (by kernel_rfl) (by kernel_rfl) (fun _ => by kernel_rfl) (fun r h => g65_ok k a0 r h) (fun _ => by kernel_rfl) (fun x0_1 hx0_1 => ?_)
 let E1 : Env := [(11, .bool (decide (x0_1 < 1))), (10, .bool (decide (x0_1 < 1))), (9, .int .i64 x0_1), (4, .int .i64 x0_1), (8, .int .i64 x0_1), (7, .str a0), (3, .int .i64 0), (2, .int .i64 0), (0, .str a0)]
 refine oR 8 (p' := (atN 3 (ctl1 g57p2))) (eE := E1) (H' := (mkH [])) (by kernel_rfl) ?_
 refine oJ (f := fun (z3 : Bool) => if z3 then (some ((0 : Int), (10 : Int))) else (g57_l4 k a0 x0_1 k 0 0)) g57p3 (fun (z3 : Bool) => [(0, .str a0), (4, .int .i64 x0_1), (26, .bool z3)]) (fun (z3 : Bool) => (mkH [])) (fun z3 => ?_) (fun j3 hj3 => ?_)
 ·refine oS 26 (b := z3) (by kernel_rfl) (fun hb => ?_) (fun hb => ?_)
  ·let E2 : Env := [(3, .int .i64 10), (2, .int .i64 0), (26, .bool true), (0, .str a0), (4, .int .i64 x0_1), (26, .bool z3)]
   refine oR 7 (p' := .fin) (eE := E2) (H' := (mkH [])) (by kernel_rfl) ?_
   exact oT (r := ((0 : Int), (10 : Int))) (xs := [.int .i64 0, .int .i64 10]) (v := .tuple [.int .i64 0, .int .i64 10]) (by kernel_rfl) (by kernel_rfl) (by kernel_rfl) (.pures (by kernel_rfl)) (by kernel_rfl)
  ·let E3 : Env := [(28, .int .i64 0), (27, .int .i64 x0_1), (5, .int .i64 0), (26, .bool false), (0, .str a0), (4, .int .i64 x0_1), (26, .bool z3)]
   refine oR 14 (p' := g57p8) (eE := E3) (H' := (mkH [])) (by kernel_rfl) ?_
   refine oK [0, 4, 5, 27, 28] (eE := [(0, .str a0), (4, .int .i64 x0_1), (5, .int .i64 0), (27, .int .i64 x0_1), (28, .int .i64 0)]) (by kernel_rfl) ?_
   exact (g57_l4_ok k a0 x0_1 k) 0 0
 ·refine oS 11 (b := decide (x0_1 < 1)) (by kernel_rfl) (fun hb => ?_) (fun hb => ?_)
  ·let E9 : Env := ((26, .bool true) :: (25, .tuple []) :: (24, .tuple []) :: (23, .tuple []) :: (22, .tuple []) :: (21, .bool true) :: (20, .bool true) :: (19, .tuple []) :: (18, .tuple []) :: (17, .tuple []) :: (16, .tuple []) :: (15, .bool true) :: (14, .bool true) :: (13, .tuple []) :: (12, .tuple []) :: (11, .bool true) :: E1)
   refine oR 16 (p' := g57p3) (eE := E9) (H' := (mkH [])) (by kernel_rfl) ?_
   refine oK [0, 4, 26] (eE := [(0, .str a0), (4, .int .i64 x0_1), (26, .bool true)]) (by kernel_rfl) ?_
   exact hj3 true
  ·let E10 : Env := ((15, .bool (decide (2 < x0_1))) :: (14, .bool (decide (2 < x0_1))) :: (13, .bool (decide (2 < x0_1))) :: (12, .int .i64 x0_1) :: (11, .bool false) :: E1)
   refine oR 4 (p' := (atN 7 (ctl1 g57p2))) (eE := E10) (H' := (mkH [])) (by kernel_rfl) ?_
   refine oS 15 (b := decide (2 < x0_1)) (by kernel_rfl) (fun hb => ?_) (fun hb => ?_)
   ·let E11 : Env := ((26, .bool true) :: (25, .tuple []) :: (24, .tuple []) :: (23, .tuple []) :: (22, .tuple []) :: (21, .bool true) :: (20, .bool true) :: (19, .tuple []) :: (18, .tuple []) :: (17, .tuple []) :: (16, .tuple []) :: (15, .bool true) :: E10)
    refine oR 12 (p' := g57p3) (eE := E11) (H' := (mkH [])) (by kernel_rfl) ?_
    refine oK [0, 4, 26] (eE := [(0, .str a0), (4, .int .i64 x0_1), (26, .bool true)]) (by kernel_rfl) ?_
    exact hj3 true
   ·let E12 : Env := ((21, .bool (decide ((a0.length : Int) ≤ x0_1))) :: (20, .bool (decide ((a0.length : Int) ≤ x0_1))) :: (19, .bool (decide ((a0.length : Int) ≤ x0_1))) :: (18, .int .i64 (a0.length : Int)) :: (17, .str a0) :: (16, .int .i64 x0_1) :: (15, .bool false) :: E10)
    refine oR 6 (p' := (atN 13 (ctl1 g57p2))) (eE := E12) (H' := (mkH [])) (by kernel_rfl) ?_
    refine oS 21 (b := decide ((a0.length : Int) ≤ x0_1)) (by kernel_rfl) (fun hb => ?_) (fun hb => ?_)
    ·let E13 : Env := ((26, .bool true) :: (25, .tuple []) :: (24, .tuple []) :: (23, .tuple []) :: (22, .tuple []) :: (21, .bool true) :: E12)
     refine oR 6 (p' := g57p3) (eE := E13) (H' := (mkH [])) (by kernel_rfl) ?_
     refine oK [0, 4, 26] (eE := [(0, .str a0), (4, .int .i64 x0_1), (26, .bool true)]) (by kernel_rfl) ?_
     exact hj3 true
    ·refine oR 2 (p' := (atN 15 (ctl1 g57p2))) (eE := ((23, .int .i64 x0_1) :: (22, .str a0) :: (21, .bool false) :: E12)) (H' := (mkH [])) (by kernel_rfl) ?_
     refine oH (fun (x1_15 : Int) => (.int .u8 x1_15, (mkH []))) (atN 16 (ctl1 g57p2)) (fun x1_15 => ((24, .int .u8 x1_15) :: (23, .int .i64 x0_1) :: (22, .str a0) :: (21, .bool false) :: E12)) (idxH (by kernel_rfl)) (fun _ => by kernel_rfl) (fun x1_15 hx1_15 => ?_)
     let E14 : Env := ((26, .bool (!decide (x1_15 = 35))) :: (25, .bool (!decide (x1_15 = 35))) :: (24, .int .u8 x1_15) :: (23, .int .i64 x0_1) :: (22, .str a0) :: (21, .bool false) :: E12)
     refine oR 3 (p' := g57p3) (eE := E14) (H' := (mkH [])) (by kernel_rfl) ?_
     refine oK [0, 4, 26] (eE := [(0, .str a0), (4, .int .i64 x0_1), (26, .bool (!decide (x1_15 = 35)))]) (by kernel_rfl) ?_
     exact hj3 (!decide (x1_15 = 35))
end
end Go.Proofs.Ytokcjgjgojlhbaa.Am
set_option maxRecDepth 100000
set_option linter.unusedVariables false
namespace Go.Proofs.Ytokcjgjgojlhbaa.Am
noncomputable section
open Go
def X56 : Fx Int := ⟨Try.prog, cx, Try.f56, fun r => .int .i64 r, 0, fun _ => H0, cxTi, cxOrd⟩
def g56p0 : Pt := nav [0] (bodyAt Try.f56)
def g56p1 : Pt := nav [0, 0, 0] g56p0
def g56p2 : Pt := nav [0, 0, 0, 0] g56p1
def g56p3 : Pt := nav [0, 0, 0] g56p2
def g56p4 : Pt := nav [0, 0] g56p3
def g56p6 : Pt := nav [2, 0, 0] g56p4
def g56 (k : Nat) (a0 : (List Nat)) : Option Int :=
 (g57 k a0).bind fun x0_1 => (subL a0 (some x0_1.1) none).bind fun x1_2 => (g64 k x1_2 x0_1.2).bind fun x1_4 => jn (fun (z3 : Bool) => if z3 then (some (fW .i64 (x0_1.1 + x1_4))) else ((g64 k a0 (10 : Int)).bind fun x2_1 => some x2_1)) (fun j3 => if (decide (0 < x0_1.1)) then (j3 (decide (0 < x1_4))) else (j3 false))
theorem g56_ok (k : Nat) (a0 : (List Nat)) (r : Int) (h : g56 k a0 = some r) : PureOk Try.prog 56 [.str a0] (.int .i64 r) := by
 refine pure_of X56 (fun _ => rfl) Try.func56 (by decide +kernel) (by kernel_rfl) (t := g56 k a0) ?_ h
 unfold g56
 refine oE (eE := [(0, .str a0)]) (by kernel_rfl) ?_
 refine oR 7 (p' := (atN 1 (ctl1 g56p1))) (eE := [(7, .str a0), (2, .int .i64 0), (0, .str a0)]) (H' := (mkH [])) (by kernel_rfl) ?_
 refine oC (fun (x0_1 : (Int × Int)) => .tuple [.int .i64 x0_1.1, .int .i64 x0_1.2]) (atN 2 (ctl1 g56p1)) (fun x0_1 => [(8, .tuple [.int .i64 x0_1.1, .int .i64 x0_1.2]), (7, .str a0), (2, .int .i64 0), (0, .str a0)]) (fi := 57) (args := [.str a0]) (by kernel_rfl) (by kernel_rfl) (fun _ => by kernel_rfl) (fun r h => g57_ok k a0 r h) (fun _ => by kernel_rfl) (fun x0_1 hx0_1 => ?_)
 let E1 : Env := [(12, .int .i64 x0_1.1), (11, .str a0), (4, .int .i64 x0_1.2), (3, .int .i64 x0_1.1), (10, .int .i64 x0_1.2), (9, .int .i64 x0_1.1), (6, .tuple [.int .i64 x0_1.1, .int .i64 x0_1.2]), (8, .tuple [.int .i64 x0_1.1, .int .i64 x0_1.2]), (7, .str a0), (2, .int .i64 0), (0, .str a0)]
 refine oR 11 (p' := (atN 2 (ctl1 g56p2))) (eE := E1) (H' := (mkH [])) (by kernel_rfl) ?_
 refine oH (fun (x1_2 : (List Nat)) => (.str x1_2, (mkH []))) (atN 3 (ctl1 g56p2)) (fun x1_2 => ((13, .str x1_2) :: E1)) (subH (some x0_1.1) none (by kernel_rfl)) (fun _ => by kernel_rfl) (fun x1_2 hx1_2 => ?_)
 refine oR 1 (p' := (atN 4 (ctl1 g56p2))) (eE := ((14, .int .i64 x0_1.2) :: (13, .str x1_2) :: E1)) (H' := (mkH [])) (by kernel_rfl) ?_
 refine oC (fun (x1_4 : Int) => .int .i64 x1_4) (atN 5 (ctl1 g56p2)) (fun x1_4 => ((15, .int .i64 x1_4) :: (14, .int .i64 x0_1.2) :: (13, .str x1_2) :: E1)) (fi := 64) (args := [.str x1_2, .int .i64 x0_1.2]) (by kernel_rfl) (by kernel_rfl) (fun _ => by kernel_rfl) (fun r h => g64_ok k x1_2 x0_1.2 r h) (fun _ => by kernel_rfl) (fun x1_4 hx1_4 => ?_)
 refine oR 3 (p' := g56p3) (eE := ((5, .int .i64 x1_4) :: (15, .int .i64 x1_4) :: (14, .int .i64 x0_1.2) :: (13, .str x1_2) :: E1)) (H' := (mkH [])) (by kernel_rfl) ?_
 refine oK [0, 3, 5] (eE := [(0, .str a0), (3, .int .i64 x0_1.1), (5, .int .i64 x1_4)]) (by kernel_rfl) ?_
 let E2 : Env := [(18, .bool (decide (0 < x0_1.1))), (17, .bool (decide (0 < x0_1.1))), (16, .int .i64 x0_1.1), (0, .str a0), (3, .int .i64 x0_1.1), (5, .int .i64 x1_4)]
 refine oR 4 (p' := (atN 3 (ctl1 g56p3))) (eE := E2) (H' := (mkH [])) (by kernel_rfl) ?_
 refine oJ (f := fun (z3 : Bool) => if z3 then (some (fW .i64 (x0_1.1 + x1_4))) else ((g64 k a0 (10 : Int)).bind fun x2_1 => some x2_1)) g56p4 (fun (z3 : Bool) => [(0, .str a0), (3, .int .i64 x0_1.1), (5, .int .i64 x1_4), (21, .bool z3)]) (fun (z3 : Bool) => (mkH [])) (fun z3 => ?_) (fun j3 hj3 => ?_)
 ·refine oS 21 (b := z3) (by kernel_rfl) (fun hb => ?_) (fun hb => ?_)
  ·let E3 : Env := [(2, .int .i64 (fW .i64 (x0_1.1 + x1_4))), (24, .int .i64 (fW .i64 (x0_1.1 + x1_4))), (23, .int .i64 x1_4), (22, .int .i64 x0_1.1), (21, .bool true), (0, .str a0), (3, .int .i64 x0_1.1), (5, .int .i64 x1_4), (21, .bool z3)]
   refine oR 9 (p' := .fin) (eE := E3) (H' := (mkH [])) (by kernel_rfl) ?_
   exact oT (r := (fW .i64 (x0_1.1 + x1_4))) (xs := [.int .i64 (fW .i64 (x0_1.1 + x1_4))]) (v := .int .i64 (fW .i64 (x0_1.1 + x1_4))) (by kernel_rfl) (by kernel_rfl) (by kernel_rfl) (.pures (by kernel_rfl)) (by kernel_rfl)
  ·let E4 : Env := [(25, .str a0), (21, .bool false), (0, .str a0), (3, .int .i64 x0_1.1), (5, .int .i64 x1_4), (21, .bool z3)]
   refine oR 5 (p' := (atN 1 (ctl1 g56p6))) (eE := E4) (H' := (mkH [])) (by kernel_rfl) ?_
   refine oC (fun (x2_1 : Int) => .int .i64 x2_1) (atN 2 (ctl1 g56p6)) (fun x2_1 => ((26, .int .i64 x2_1) :: E4)) (fi := 64) (args := [.str a0, .int .i64 10]) (by kernel_rfl) (by kernel_rfl) (fun _ => by kernel_rfl) (fun r h => g64_ok k a0 (10 : Int) r h) (fun _ => by kernel_rfl) (fun x2_1 hx2_1 => ?_)
   refine oR 3 (p' := .fin) (eE := ((2, .int .i64 x2_1) :: (26, .int .i64 x2_1) :: E4)) (H' := (mkH [])) (by kernel_rfl) ?_
   exact oT (r := x2_1) (xs := [.int .i64 x2_1]) (v := .int .i64 x2_1) (by kernel_rfl) (by kernel_rfl) (by kernel_rfl) (.pures (by kernel_rfl)) (by kernel_rfl)
 ·refine oS 18 (b := decide (0 < x0_1.1)) (by kernel_rfl) (fun hb => ?_) (fun hb => ?_)
  ·refine oR 4 (p' := g56p4) (eE := ((21, .bool (decide (0 < x1_4))) :: (20, .bool (decide (0 < x1_4))) :: (19, .int .i64 x1_4) :: (18, .bool true) :: E2)) (H' := (mkH [])) (by kernel_rfl) ?_
   refine oK [0, 3, 5, 21] (eE := [(0, .str a0), (3, .int .i64 x0_1.1), (5, .int .i64 x1_4), (21, .bool (decide (0 < x1_4)))]) (by kernel_rfl) ?_
   exact hj3 (decide (0 < x1_4))
  ·refine oR 4 (p' := g56p4) (eE := ((21, .bool false) :: (20, .tuple []) :: (19, .tuple []) :: (18, .bool false) :: E2)) (H' := (mkH [])) (by kernel_rfl) ?_
   refine oK [0, 3, 5, 21] (eE := [(0, .str a0), (3, .int .i64 x0_1.1), (5, .int .i64 x1_4), (21, .bool false)]) (by kernel_rfl) ?_
   exact hj3 false
end
end Go.Proofs.Ytokcjgjgojlhbaa.Am
set_option maxRecDepth 100000
set_option linter.unusedVariables false
namespace Go.Proofs.Ytokcjgjgojlhbaa.Am
noncomputable section
open Go
def X55 : Fx Int := ⟨Try.prog, cx, Try.f55, fun r => .int .i64 r, 0, fun _ => H0, cxTi, cxOrd⟩
def g55p0 : Pt := nav [0] (bodyAt Try.f55)
def g55p1 : Pt := nav [0, 0, 0] g55p0
def g55p2 : Pt := nav [0, 0, 0, 0] g55p1
def g55p3 : Pt := nav [0, 0] g55p2
def g55p5 : Pt := nav [2, 0, 0] g55p3
def g55p7 : Pt := nav [0, 0, 0, 0] g55p5
def g55p8 : Pt := nav [0, 0] g55p7
def g55p10 : Pt := nav [2, 0, 0] g55p8
def g55p11 : Pt := nav [0, 0, 0, 0] g55p10
def g55p12 : Pt := nav [0, 0] g55p11
def g55p13 : Pt := nav [1, 0] g55p12
def g55p14 : Pt := nav [2, 0, 0] g55p12
def g55p15 : Pt := nav [0, 0, 0, 0] g55p13
def g55p16 : Pt := nav [0, 0] g55p15
def g55p18 : Pt := nav [2, 0, 0] g55p16
def g55p19 : Pt := nav [0, 0, 0] g55p18
def g55p20 : Pt := nav [0, 0] g55p19
def g55 (k : Nat) (a0 : (List Nat)) : Option Int :=
 (g64 k a0 (10 : Int)).bind fun x0_1 => jn (fun (z6 : Bool) => if z6 then (some (0 : Int)) else ((subL a0 (some (fW .i64 (x0_1 + 1))) none).bind fun x2_3 => (g64 k x2_3 (10 : Int)).bind fun x2_4 => if (decide (x2_4 = 0)) then (some (0 : Int)) else (jn (fun (z7 : Bool) => jn (fun (z10 : Unit) => some (fW .i64 (fW .i64 (x0_1 + 1) + x2_4))) (fun j10 => if z7 then (jn (fun (z8 : Bool) => jn (fun (z9 : Int) => (subL a0 (some z9) none).bind fun x5_2 => (g64 k x5_2 (10 : Int)).bind fun x5_3 => if (decide (0 < x5_3)) then (some (fW .i64 (z9 + x5_3))) else (j10 ())) (fun j9 => if z8 then (j9 (fW .i64 (fW .i64 (fW .i64 (fW .i64 (x0_1 + 1) + x2_4) + 1) + 1))) else (j9 (fW .i64 (fW .i64 (fW .i64 (x0_1 + 1) + x2_4) + 1))))) (fun j8 => if (decide (fW .i64 (fW .i64 (fW .i64 (x0_1 + 1) + x2_4) + 1) < (a0.length : Int))) then ((nthS a0 (fW .i64 (fW .i64 (fW .i64 (x0_1 + 1) + x2_4) + 1))).bind fun x4_7 => if (decide (x4_7 = 43)) then (j8 true) else ((nthS a0 (fW .i64 (fW .i64 (fW .i64 (x0_1 + 1) + x2_4) + 1))).bind fun x4_12 => j8 (decide (x4_12 = 45)))) else (j8 false))) else (j10 ()))) (fun j7 => if (decide (fW .i64 (fW .i64 (x0_1 + 1) + x2_4) < (a0.length : Int))) then ((nthS a0 (fW .i64 (fW .i64 (x0_1 + 1) + x2_4))).bind fun x3_7 => j7 (decide (orI .u8 x3_7 32 = 101))) else (j7 false))))) (fun j6 => if (decide (x0_1 = 0)) then (j6 true) else (if (decide ((a0.length : Int) ≤ x0_1)) then (j6 true) else ((nthS a0 x0_1).bind fun x1_11 => j6 (!decide (x1_11 = 46)))))
theorem g55_ok (k : Nat) (a0 : (List Nat)) (r : Int) (h : g55 k a0 = some r) : PureOk Try.prog 55 [.str a0] (.int .i64 r) := by
 refine pure_of X55 (fun _ => rfl) Try.func55 (by decide +kernel) (by kernel_rfl) (t := g55 k a0) ?_ h
 unfold g55
 refine oE (eE := [(0, .str a0)]) (by kernel_rfl) ?_
 refine oR 7 (p' := (atN 1 (ctl1 g55p1))) (eE := [(7, .str a0), (2, .int .i64 0), (0, .str a0)]) (H' := (mkH [])) (by kernel_rfl) ?_
 refine oC (fun (x0_1 : Int) => .int .i64 x0_1) (atN 2 (ctl1 g55p1)) (fun x0_1 => [(8, .int .i64 x0_1), (7, .str a0), (2, .int .i64 0), (0, .str a0)]) (fi := 64) (args := [.str a0, .int .i64 10]) (by kernel_rfl) (by kernel_rfl) (fun _ => by kernel_rfl) (fun r h => g64_ok k a0 (10 : Int) r h) (fun _ => by kernel_rfl) (fun x0_1 hx0_1 => ?_)
 let E1 : Env := [(11, .bool (decide (x0_1 = 0))), (10, .bool (decide (x0_1 = 0))), (9, .int .i64 x0_1), (3, .int .i64 x0_1), (8, .int .i64 x0_1), (7, .str a0), (2, .int .i64 0), (0, .str a0)]
 refine oR 8 (p' := (atN 3 (ctl1 g55p2))) (eE := E1) (H' := (mkH [])) (by kernel_rfl) ?_
 refine oJ (f := fun (z6 : Bool) => if z6 then (some (0 : Int)) else ((subL a0 (some (fW .i64 (x0_1 + 1))) none).bind fun x2_3 => (g64 k x2_3 (10 : Int)).bind fun x2_4 => if (decide (x2_4 = 0)) then (some (0 : Int)) else (jn (fun (z7 : Bool) => jn (fun (z10 : Unit) => some (fW .i64 (fW .i64 (x0_1 + 1) + x2_4))) (fun j10 => if z7 then (jn (fun (z8 : Bool) => jn (fun (z9 : Int) => (subL a0 (some z9) none).bind fun x5_2 => (g64 k x5_2 (10 : Int)).bind fun x5_3 => if (decide (0 < x5_3)) then (some (fW .i64 (z9 + x5_3))) else (j10 ())) (fun j9 => if z8 then (j9 (fW .i64 (fW .i64 (fW .i64 (fW .i64 (x0_1 + 1) + x2_4) + 1) + 1))) else (j9 (fW .i64 (fW .i64 (fW .i64 (x0_1 + 1) + x2_4) + 1))))) (fun j8 => if (decide (fW .i64 (fW .i64 (fW .i64 (x0_1 + 1) + x2_4) + 1) < (a0.length : Int))) then ((nthS a0 (fW .i64 (fW .i64 (fW .i64 (x0_1 + 1) + x2_4) + 1))).bind fun x4_7 => if (decide (x4_7 = 43)) then (j8 true) else ((nthS a0 (fW .i64 (fW .i64 (fW .i64 (x0_1 + 1) + x2_4) + 1))).bind fun x4_12 => j8 (decide (x4_12 = 45)))) else (j8 false))) else (j10 ()))) (fun j7 => if (decide (fW .i64 (fW .i64 (x0_1 + 1) + x2_4) < (a0.length : Int))) then ((nthS a0 (fW .i64 (fW .i64 (x0_1 + 1) + x2_4))).bind fun x3_7 => j7 (decide (orI .u8 x3_7 32 = 101))) else (j7 false))))) g55p3 (fun (z6 : Bool) => [(0, .str a0), (3, .int .i64 x0_1), (22, .bool z6)]) (fun (z6 : Bool) => (mkH [])) (fun z6 => ?_) (fun j6 hj6 => ?_)
 ·refine oS 22 (b := z6) (by kernel_rfl) (fun hb => ?_) (fun hb => ?_)
  ·let E2 : Env := [(2, .int .i64 0), (22, .bool true), (0, .str a0), (3, .int .i64 x0_1), (22, .bool z6)]
   refine oR 6 (p' := .fin) (eE := E2) (H' := (mkH [])) (by kernel_rfl) ?_
   exact oT (r := (0 : Int)) (xs := [.int .i64 0]) (v := .int .i64 0) (by kernel_rfl) (by kernel_rfl) (by kernel_rfl) (.pures (by kernel_rfl)) (by kernel_rfl)
  ·let E3 : Env := [(25, .int .i64 (fW .i64 (x0_1 + 1))), (24, .int .i64 x0_1), (23, .str a0), (22, .bool false), (0, .str a0), (3, .int .i64 x0_1), (22, .bool z6)]
   refine oR 7 (p' := (atN 3 (ctl1 g55p5))) (eE := E3) (H' := (mkH [])) (by kernel_rfl) ?_
   refine oH (fun (x2_3 : (List Nat)) => (.str x2_3, (mkH []))) (atN 4 (ctl1 g55p5)) (fun x2_3 => ((26, .str x2_3) :: E3)) (subH (some (fW .i64 (x0_1 + 1))) none (by kernel_rfl)) (fun _ => by kernel_rfl) (fun x2_3 hx2_3 => ?_)
   refine oC (fun (x2_4 : Int) => .int .i64 x2_4) (atN 5 (ctl1 g55p5)) (fun x2_4 => ((27, .int .i64 x2_4) :: (26, .str x2_3) :: E3)) (fi := 64) (args := [.str x2_3, .int .i64 10]) (by kernel_rfl) (by kernel_rfl) (fun _ => by kernel_rfl) (fun r h => g64_ok k x2_3 (10 : Int) r h) (fun _ => by kernel_rfl) (fun x2_4 hx2_4 => ?_)
   refine oR 4 (p' := g55p7) (eE := ((4, .int .i64 x2_4) :: (27, .int .i64 x2_4) :: (26, .str x2_3) :: E3)) (H' := (mkH [])) (by kernel_rfl) ?_
   refine oK [0, 3, 4] (eE := [(0, .str a0), (3, .int .i64 x0_1), (4, .int .i64 x2_4)]) (by kernel_rfl) ?_
   let E4 : Env := [(29, .bool (decide (x2_4 = 0))), (28, .int .i64 x2_4), (0, .str a0), (3, .int .i64 x0_1), (4, .int .i64 x2_4)]
   refine oR 4 (p' := g55p8) (eE := E4) (H' := (mkH [])) (by kernel_rfl) ?_
   refine oS 29 (b := decide (x2_4 = 0)) (by kernel_rfl) (fun hb => ?_) (fun hb => ?_)
   ·refine oR 6 (p' := .fin) (eE := ((2, .int .i64 0) :: (29, .bool true) :: E4)) (H' := (mkH [])) (by kernel_rfl) ?_
    exact oT (r := (0 : Int)) (xs := [.int .i64 0]) (v := .int .i64 0) (by kernel_rfl) (by kernel_rfl) (by kernel_rfl) (.pures (by kernel_rfl)) (by kernel_rfl)
   ·let E5 : Env := ((3, .int .i64 (fW .i64 (fW .i64 (x0_1 + 1) + x2_4))) :: (33, .int .i64 (fW .i64 (fW .i64 (x0_1 + 1) + x2_4))) :: (32, .int .i64 x2_4) :: (31, .int .i64 (fW .i64 (x0_1 + 1))) :: (30, .int .i64 x0_1) :: (29, .bool false) :: E4)
    refine oR 12 (p' := g55p11) (eE := E5) (H' := (mkH [])) (by kernel_rfl) ?_
    refine oK [0, 3] (eE := [(0, .str a0), (3, .int .i64 (fW .i64 (fW .i64 (x0_1 + 1) + x2_4)))]) (by kernel_rfl) ?_
    let E6 : Env := [(38, .bool (decide (fW .i64 (fW .i64 (x0_1 + 1) + x2_4) < (a0.length : Int)))), (37, .bool (decide (fW .i64 (fW .i64 (x0_1 + 1) + x2_4) < (a0.length : Int)))), (36, .int .i64 (a0.length : Int)), (35, .str a0), (34, .int .i64 (fW .i64 (fW .i64 (x0_1 + 1) + x2_4))), (0, .str a0), (3, .int .i64 (fW .i64 (fW .i64 (x0_1 + 1) + x2_4)))]
    refine oR 6 (p' := (atN 5 (ctl1 g55p11))) (eE := E6) (H' := (mkH [])) (by kernel_rfl) ?_
    refine oJ (f := fun (z7 : Bool) => jn (fun (z10 : Unit) => some (fW .i64 (fW .i64 (x0_1 + 1) + x2_4))) (fun j10 => if z7 then (jn (fun (z8 : Bool) => jn (fun (z9 : Int) => (subL a0 (some z9) none).bind fun x5_2 => (g64 k x5_2 (10 : Int)).bind fun x5_3 => if (decide (0 < x5_3)) then (some (fW .i64 (z9 + x5_3))) else (j10 ())) (fun j9 => if z8 then (j9 (fW .i64 (fW .i64 (fW .i64 (fW .i64 (x0_1 + 1) + x2_4) + 1) + 1))) else (j9 (fW .i64 (fW .i64 (fW .i64 (x0_1 + 1) + x2_4) + 1))))) (fun j8 => if (decide (fW .i64 (fW .i64 (fW .i64 (x0_1 + 1) + x2_4) + 1) < (a0.length : Int))) then ((nthS a0 (fW .i64 (fW .i64 (fW .i64 (x0_1 + 1) + x2_4) + 1))).bind fun x4_7 => if (decide (x4_7 = 43)) then (j8 true) else ((nthS a0 (fW .i64 (fW .i64 (fW .i64 (x0_1 + 1) + x2_4) + 1))).bind fun x4_12 => j8 (decide (x4_12 = 45)))) else (j8 false))) else (j10 ()))) g55p12 (fun (z7 : Bool) => [(0, .str a0), (3, .int .i64 (fW .i64 (fW .i64 (x0_1 + 1) + x2_4))), (44, .bool z7)]) (fun (z7 : Bool) => (mkH [])) (fun z7 => ?_) (fun j7 hj7 => ?_)
    ·refine oJ (f := fun (z10 : Unit) => some (fW .i64 (fW .i64 (x0_1 + 1) + x2_4))) g55p14 (fun (z10 : Unit) => [(3, .int .i64 (fW .i64 (fW .i64 (x0_1 + 1) + x2_4)))]) (fun (z10 : Unit) => (mkH [])) (fun z10 => ?_) (fun j10 hj10 => ?_)
     ·refine oR 5 (p' := .fin) (eE := [(2, .int .i64 (fW .i64 (fW .i64 (x0_1 + 1) + x2_4))), (74, .int .i64 (fW .i64 (fW .i64 (x0_1 + 1) + x2_4))), (3, .int .i64 (fW .i64 (fW .i64 (x0_1 + 1) + x2_4)))]) (H' := (mkH [])) (by kernel_rfl) ?_
      exact oT (r := (fW .i64 (fW .i64 (x0_1 + 1) + x2_4))) (xs := [.int .i64 (fW .i64 (fW .i64 (x0_1 + 1) + x2_4))]) (v := .int .i64 (fW .i64 (fW .i64 (x0_1 + 1) + x2_4))) (by kernel_rfl) (by kernel_rfl) (by kernel_rfl) (.pures (by kernel_rfl)) (by kernel_rfl)
     ·refine oS 44 (b := z7) (by kernel_rfl) (fun hb => ?_) (fun hb => ?_)
      ·let E7 : Env := [(51, .bool (decide (fW .i64 (fW .i64 (fW .i64 (x0_1 + 1) + x2_4) + 1) < (a0.length : Int)))), (50, .bool (decide (fW .i64 (fW .i64 (fW .i64 (x0_1 + 1) + x2_4) + 1) < (a0.length : Int)))), (49, .int .i64 (a0.length : Int)), (48, .str a0), (47, .int .i64 (fW .i64 (fW .i64 (fW .i64 (x0_1 + 1) + x2_4) + 1))), (5, .int .i64 (fW .i64 (fW .i64 (fW .i64 (x0_1 + 1) + x2_4) + 1))), (46, .int .i64 (fW .i64 (fW .i64 (fW .i64 (x0_1 + 1) + x2_4) + 1))), (45, .int .i64 (fW .i64 (fW .i64 (x0_1 + 1) + x2_4))), (44, .bool true), (0, .str a0), (3, .int .i64 (fW .i64 (fW .i64 (x0_1 + 1) + x2_4))), (44, .bool z7)]
       refine oR 15 (p' := (atN 5 (ctl1 g55p15))) (eE := E7) (H' := (mkH [])) (by kernel_rfl) ?_
       refine oJ (f := fun (z8 : Bool) => jn (fun (z9 : Int) => (subL a0 (some z9) none).bind fun x5_2 => (g64 k x5_2 (10 : Int)).bind fun x5_3 => if (decide (0 < x5_3)) then (some (fW .i64 (z9 + x5_3))) else (j10 ())) (fun j9 => if z8 then (j9 (fW .i64 (fW .i64 (fW .i64 (fW .i64 (x0_1 + 1) + x2_4) + 1) + 1))) else (j9 (fW .i64 (fW .i64 (fW .i64 (x0_1 + 1) + x2_4) + 1))))) g55p16 (fun (z8 : Bool) => [(0, .str a0), (3, .int .i64 (fW .i64 (fW .i64 (x0_1 + 1) + x2_4))), (5, .int .i64 (fW .i64 (fW .i64 (fW .i64 (x0_1 + 1) + x2_4) + 1))), (62, .bool z8)]) (fun (z8 : Bool) => (mkH [])) (fun z8 => ?_) (fun j8 hj8 => ?_)
       ·refine oJ (f := fun (z9 : Int) => (subL a0 (some z9) none).bind fun x5_2 => (g64 k x5_2 (10 : Int)).bind fun x5_3 => if (decide (0 < x5_3)) then (some (fW .i64 (z9 + x5_3))) else (j10 ())) g55p18 (fun (z9 : Int) => [(0, .str a0), (3, .int .i64 (fW .i64 (fW .i64 (x0_1 + 1) + x2_4))), (5, .int .i64 z9)]) (fun (z9 : Int) => (mkH [])) (fun z9 => ?_) (fun j9 hj9 => ?_)
        ·let E8 : Env := [(66, .int .i64 z9), (65, .str a0), (0, .str a0), (3, .int .i64 (fW .i64 (fW .i64 (x0_1 + 1) + x2_4))), (5, .int .i64 z9)]
         refine oR 3 (p' := (atN 2 (ctl1 g55p18))) (eE := E8) (H' := (mkH [])) (by kernel_rfl) ?_
         refine oH (fun (x5_2 : (List Nat)) => (.str x5_2, (mkH []))) (atN 3 (ctl1 g55p18)) (fun x5_2 => ((67, .str x5_2) :: E8)) (subH (some z9) none (by kernel_rfl)) (fun _ => by kernel_rfl) (fun x5_2 hx5_2 => ?_)
         refine oC (fun (x5_3 : Int) => .int .i64 x5_3) (atN 4 (ctl1 g55p18)) (fun x5_3 => ((68, .int .i64 x5_3) :: (67, .str x5_2) :: E8)) (fi := 64) (args := [.str x5_2, .int .i64 10]) (by kernel_rfl) (by kernel_rfl) (fun _ => by kernel_rfl) (fun r h => g64_ok k x5_2 (10 : Int) r h) (fun _ => by kernel_rfl) (fun x5_3 hx5_3 => ?_)
         let E9 : Env := ((70, .bool (decide (0 < x5_3))) :: (69, .int .i64 x5_3) :: (6, .int .i64 x5_3) :: (68, .int .i64 x5_3) :: (67, .str x5_2) :: E8)
         refine oR 7 (p' := g55p20) (eE := E9) (H' := (mkH [])) (by kernel_rfl) ?_
         refine oS 70 (b := decide (0 < x5_3)) (by kernel_rfl) (fun hb => ?_) (fun hb => ?_)
         ·let E10 : Env := ((2, .int .i64 (fW .i64 (z9 + x5_3))) :: (73, .int .i64 (fW .i64 (z9 + x5_3))) :: (72, .int .i64 x5_3) :: (71, .int .i64 z9) :: (70, .bool true) :: E9)
          refine oR 9 (p' := .fin) (eE := E10) (H' := (mkH [])) (by kernel_rfl) ?_
          exact oT (r := (fW .i64 (z9 + x5_3))) (xs := [.int .i64 (fW .i64 (z9 + x5_3))]) (v := .int .i64 (fW .i64 (z9 + x5_3))) (by kernel_rfl) (by kernel_rfl) (by kernel_rfl) (.pures (by kernel_rfl)) (by kernel_rfl)
         ·refine oR 3 (p' := g55p14) (eE := ((70, .bool false) :: E9)) (H' := (mkH [])) (by kernel_rfl) ?_
          refine oK [3] (eE := [(3, .int .i64 (fW .i64 (fW .i64 (x0_1 + 1) + x2_4)))]) (by kernel_rfl) ?_
          exact hj10 ()
        ·refine oS 62 (b := z8) (by kernel_rfl) (fun hb => ?_) (fun hb => ?_)
         ·let E11 : Env := [(5, .int .i64 (fW .i64 (fW .i64 (fW .i64 (fW .i64 (x0_1 + 1) + x2_4) + 1) + 1))), (64, .int .i64 (fW .i64 (fW .i64 (fW .i64 (fW .i64 (x0_1 + 1) + x2_4) + 1) + 1))), (63, .int .i64 (fW .i64 (fW .i64 (fW .i64 (x0_1 + 1) + x2_4) + 1))), (62, .bool true), (0, .str a0), (3, .int .i64 (fW .i64 (fW .i64 (x0_1 + 1) + x2_4))), (5, .int .i64 (fW .i64 (fW .i64 (fW .i64 (x0_1 + 1) + x2_4) + 1))), (62, .bool z8)]
          refine oR 7 (p' := g55p18) (eE := E11) (H' := (mkH [])) (by kernel_rfl) ?_
          refine oK [0, 3, 5] (eE := [(0, .str a0), (3, .int .i64 (fW .i64 (fW .i64 (x0_1 + 1) + x2_4))), (5, .int .i64 (fW .i64 (fW .i64 (fW .i64 (fW .i64 (x0_1 + 1) + x2_4) + 1) + 1)))]) (by kernel_rfl) ?_
          exact hj9 (fW .i64 (fW .i64 (fW .i64 (fW .i64 (x0_1 + 1) + x2_4) + 1) + 1))
         ·let E12 : Env := [(62, .bool false), (0, .str a0), (3, .int .i64 (fW .i64 (fW .i64 (x0_1 + 1) + x2_4))), (5, .int .i64 (fW .i64 (fW .i64 (fW .i64 (x0_1 + 1) + x2_4) + 1))), (62, .bool z8)]
          refine oR 3 (p' := g55p18) (eE := E12) (H' := (mkH [])) (by kernel_rfl) ?_
          refine oK [0, 3, 5] (eE := [(0, .str a0), (3, .int .i64 (fW .i64 (fW .i64 (x0_1 + 1) + x2_4))), (5, .int .i64 (fW .i64 (fW .i64 (fW .i64 (x0_1 + 1) + x2_4) + 1)))]) (by kernel_rfl) ?_
          exact hj9 (fW .i64 (fW .i64 (fW .i64 (x0_1 + 1) + x2_4) + 1))
       ·refine oS 51 (b := decide (fW .i64 (fW .i64 (fW .i64 (x0_1 + 1) + x2_4) + 1) < (a0.length : Int))) (by kernel_rfl) (fun hb => ?_) (fun hb => ?_)
        ·refine oR 2 (p' := (atN 7 (ctl1 g55p15))) (eE := ((53, .int .i64 (fW .i64 (fW .i64 (fW .i64 (x0_1 + 1) + x2_4) + 1))) :: (52, .str a0) :: (51, .bool true) :: E7)) (H' := (mkH [])) (by kernel_rfl) ?_
         refine oH (fun (x4_7 : Int) => (.int .u8 x4_7, (mkH []))) (atN 8 (ctl1 g55p15)) (fun x4_7 => ((54, .int .u8 x4_7) :: (53, .int .i64 (fW .i64 (fW .i64 (fW .i64 (x0_1 + 1) + x2_4) + 1))) :: (52, .str a0) :: (51, .bool true) :: E7)) (idxH (by kernel_rfl)) (fun _ => by kernel_rfl) (fun x4_7 hx4_7 => ?_)
         let E13 : Env := ((56, .bool (decide (x4_7 = 43))) :: (55, .bool (decide (x4_7 = 43))) :: (54, .int .u8 x4_7) :: (53, .int .i64 (fW .i64 (fW .i64 (fW .i64 (x0_1 + 1) + x2_4) + 1))) :: (52, .str a0) :: (51, .bool true) :: E7)
         refine oR 2 (p' := (atN 10 (ctl1 g55p15))) (eE := E13) (H' := (mkH [])) (by kernel_rfl) ?_
         refine oS 56 (b := decide (x4_7 = 43)) (by kernel_rfl) (fun hb => ?_) (fun hb => ?_)
         ·let E14 : Env := ((62, .bool true) :: (61, .bool true) :: (60, .tuple []) :: (59, .tuple []) :: (58, .tuple []) :: (57, .tuple []) :: (56, .bool true) :: E13)
          refine oR 7 (p' := g55p16) (eE := E14) (H' := (mkH [])) (by kernel_rfl) ?_
          refine oK [0, 3, 5, 62] (eE := [(0, .str a0), (3, .int .i64 (fW .i64 (fW .i64 (x0_1 + 1) + x2_4))), (5, .int .i64 (fW .i64 (fW .i64 (fW .i64 (x0_1 + 1) + x2_4) + 1))), (62, .bool true)]) (by kernel_rfl) ?_
          exact hj8 true
         ·refine oR 2 (p' := (atN 12 (ctl1 g55p15))) (eE := ((58, .int .i64 (fW .i64 (fW .i64 (fW .i64 (x0_1 + 1) + x2_4) + 1))) :: (57, .str a0) :: (56, .bool false) :: E13)) (H' := (mkH [])) (by kernel_rfl) ?_
          refine oH (fun (x4_12 : Int) => (.int .u8 x4_12, (mkH []))) (atN 13 (ctl1 g55p15)) (fun x4_12 => ((59, .int .u8 x4_12) :: (58, .int .i64 (fW .i64 (fW .i64 (fW .i64 (x0_1 + 1) + x2_4) + 1))) :: (57, .str a0) :: (56, .bool false) :: E13)) (idxH (by kernel_rfl)) (fun _ => by kernel_rfl) (fun x4_12 hx4_12 => ?_)
          let E15 : Env := ((62, .bool (decide (x4_12 = 45))) :: (61, .bool (decide (x4_12 = 45))) :: (60, .bool (decide (x4_12 = 45))) :: (59, .int .u8 x4_12) :: (58, .int .i64 (fW .i64 (fW .i64 (fW .i64 (x0_1 + 1) + x2_4) + 1))) :: (57, .str a0) :: (56, .bool false) :: E13)
          refine oR 4 (p' := g55p16) (eE := E15) (H' := (mkH [])) (by kernel_rfl) ?_
          refine oK [0, 3, 5, 62] (eE := [(0, .str a0), (3, .int .i64 (fW .i64 (fW .i64 (x0_1 + 1) + x2_4))), (5, .int .i64 (fW .i64 (fW .i64 (fW .i64 (x0_1 + 1) + x2_4) + 1))), (62, .bool (decide (x4_12 = 45)))]) (by kernel_rfl) ?_
          exact hj8 (decide (x4_12 = 45))
        ·let E16 : Env := ((62, .bool false) :: (61, .tuple []) :: (60, .tuple []) :: (59, .tuple []) :: (58, .tuple []) :: (57, .tuple []) :: (56, .tuple []) :: (55, .tuple []) :: (54, .tuple []) :: (53, .tuple []) :: (52, .tuple []) :: (51, .bool false) :: E7)
         refine oR 12 (p' := g55p16) (eE := E16) (H' := (mkH [])) (by kernel_rfl) ?_
         refine oK [0, 3, 5, 62] (eE := [(0, .str a0), (3, .int .i64 (fW .i64 (fW .i64 (x0_1 + 1) + x2_4))), (5, .int .i64 (fW .i64 (fW .i64 (fW .i64 (x0_1 + 1) + x2_4) + 1))), (62, .bool false)]) (by kernel_rfl) ?_
         exact hj8 false
      ·refine oR 3 (p' := g55p14) (eE := [(44, .bool false), (0, .str a0), (3, .int .i64 (fW .i64 (fW .i64 (x0_1 + 1) + x2_4))), (44, .bool z7)]) (H' := (mkH [])) (by kernel_rfl) ?_
       refine oK [3] (eE := [(3, .int .i64 (fW .i64 (fW .i64 (x0_1 + 1) + x2_4)))]) (by kernel_rfl) ?_
       exact hj10 ()
    ·refine oS 38 (b := decide (fW .i64 (fW .i64 (x0_1 + 1) + x2_4) < (a0.length : Int))) (by kernel_rfl) (fun hb => ?_) (fun hb => ?_)
     ·refine oR 2 (p' := (atN 7 (ctl1 g55p11))) (eE := ((40, .int .i64 (fW .i64 (fW .i64 (x0_1 + 1) + x2_4))) :: (39, .str a0) :: (38, .bool true) :: E6)) (H' := (mkH [])) (by kernel_rfl) ?_
      refine oH (fun (x3_7 : Int) => (.int .u8 x3_7, (mkH []))) (atN 8 (ctl1 g55p11)) (fun x3_7 => ((41, .int .u8 x3_7) :: (40, .int .i64 (fW .i64 (fW .i64 (x0_1 + 1) + x2_4))) :: (39, .str a0) :: (38, .bool true) :: E6)) (idxH (by kernel_rfl)) (fun _ => by kernel_rfl) (fun x3_7 hx3_7 => ?_)
      let E17 : Env := ((44, .bool (decide (orI .u8 x3_7 32 = 101))) :: (43, .bool (decide (orI .u8 x3_7 32 = 101))) :: (42, .int .u8 (orI .u8 x3_7 32)) :: (41, .int .u8 x3_7) :: (40, .int .i64 (fW .i64 (fW .i64 (x0_1 + 1) + x2_4))) :: (39, .str a0) :: (38, .bool true) :: E6)
      refine oR 4 (p' := g55p12) (eE := E17) (H' := (mkH [])) (by kernel_rfl) ?_
      refine oK [0, 3, 44] (eE := [(0, .str a0), (3, .int .i64 (fW .i64 (fW .i64 (x0_1 + 1) + x2_4))), (44, .bool (decide (orI .u8 x3_7 32 = 101)))]) (by kernel_rfl) ?_
      exact hj7 (decide (orI .u8 x3_7 32 = 101))
     ·let E18 : Env := ((44, .bool false) :: (43, .tuple []) :: (42, .tuple []) :: (41, .tuple []) :: (40, .tuple []) :: (39, .tuple []) :: (38, .bool false) :: E6)
      refine oR 7 (p' := g55p12) (eE := E18) (H' := (mkH [])) (by kernel_rfl) ?_
      refine oK [0, 3, 44] (eE := [(0, .str a0), (3, .int .i64 (fW .i64 (fW .i64 (x0_1 + 1) + x2_4))), (44, .bool false)]) (by kernel_rfl) ?_
      exact hj7 false
 ·refine oS 11 (b := decide (x0_1 = 0)) (by kernel_rfl) (fun hb => ?_) (fun hb => ?_)
  ·let E19 : Env := ((22, .bool true) :: (21, .tuple []) :: (20, .tuple []) :: (19, .tuple []) :: (18, .tuple []) :: (17, .bool true) :: (16, .bool true) :: (15, .tuple []) :: (14, .tuple []) :: (13, .tuple []) :: (12, .tuple []) :: (11, .bool true) :: E1)
   refine oR 12 (p' := g55p3) (eE := E19) (H' := (mkH [])) (by kernel_rfl) ?_
   refine oK [0, 3, 22] (eE := [(0, .str a0), (3, .int .i64 x0_1), (22, .bool true)]) (by kernel_rfl) ?_
   exact hj6 true
  ·let E20 : Env := ((17, .bool (decide ((a0.length : Int) ≤ x0_1))) :: (16, .bool (decide ((a0.length : Int) ≤ x0_1))) :: (15, .bool (decide ((a0.length : Int) ≤ x0_1))) :: (14, .int .i64 (a0.length : Int)) :: (13, .str a0) :: (12, .int .i64 x0_1) :: (11, .bool false) :: E1)
   refine oR 6 (p' := (atN 9 (ctl1 g55p2))) (eE := E20) (H' := (mkH [])) (by kernel_rfl) ?_
   refine oS 17 (b := decide ((a0.length : Int) ≤ x0_1)) (by kernel_rfl) (fun hb => ?_) (fun hb => ?_)
   ·let E21 : Env := ((22, .bool true) :: (21, .tuple []) :: (20, .tuple []) :: (19, .tuple []) :: (18, .tuple []) :: (17, .bool true) :: E20)
    refine oR 6 (p' := g55p3) (eE := E21) (H' := (mkH [])) (by kernel_rfl) ?_
    refine oK [0, 3, 22] (eE := [(0, .str a0), (3, .int .i64 x0_1), (22, .bool true)]) (by kernel_rfl) ?_
    exact hj6 true
   ·refine oR 2 (p' := (atN 11 (ctl1 g55p2))) (eE := ((19, .int .i64 x0_1) :: (18, .str a0) :: (17, .bool false) :: E20)) (H' := (mkH [])) (by kernel_rfl) ?_
    refine oH (fun (x1_11 : Int) => (.int .u8 x1_11, (mkH []))) (atN 12 (ctl1 g55p2)) (fun x1_11 => ((20, .int .u8 x1_11) :: (19, .int .i64 x0_1) :: (18, .str a0) :: (17, .bool false) :: E20)) (idxH (by kernel_rfl)) (fun _ => by kernel_rfl) (fun x1_11 hx1_11 => ?_)
    let E22 : Env := ((22, .bool (!decide (x1_11 = 46))) :: (21, .bool (!decide (x1_11 = 46))) :: (20, .int .u8 x1_11) :: (19, .int .i64 x0_1) :: (18, .str a0) :: (17, .bool false) :: E20)
    refine oR 3 (p' := g55p3) (eE := E22) (H' := (mkH [])) (by kernel_rfl) ?_
    refine oK [0, 3, 22] (eE := [(0, .str a0), (3, .int .i64 x0_1), (22, .bool (!decide (x1_11 = 46)))]) (by kernel_rfl) ?_
    exact hj6 (!decide (x1_11 = 46))
end
end Go.Proofs.Ytokcjgjgojlhbaa.Am
set_option maxRecDepth 100000
set_option linter.unusedVariables false
namespace Go.Proofs.Ytokcjgjgojlhbaa.Am
noncomputable section
open Go
def X44 : Fx Int := ⟨Try.prog, cx, Try.f44, fun r => .int .i64 r, 0, fun _ => H0, cxTi, cxOrd⟩
def g44p0 : Pt := nav [0] (bodyAt Try.f44)
def g44p1 : Pt := nav [0, 0, 0] g44p0
def g44p2 : Pt := nav [0, 0, 0] g44p1
def g44p3 : Pt := nav [0, 0, 0, 0] g44p2
def g44p4 : Pt := nav [0, 0] g44p3
def g44p5 : Pt := nav [1, 0] g44p4
def g44p6 : Pt := nav [2, 0, 0] g44p4
def g44p7 : Pt := nav [0, 0, 0, 0] g44p5
def g44p9 : Pt := nav [0, 0, 0, 0] g44p7
def g44p10 : Pt := nav [0, 0, 0] g44p9
def g44p11 : Pt := nav [0, 0] g44p10
def g44p12 : Pt := nav [1, 0, 0, 0] g44p11
def g44p13 : Pt := nav [2, 0, 0] g44p11
def g44p14 : Pt := nav [0, 0] g44p12
def g44p15 : Pt := nav [0, 0, 0] g44p13
def g44p16 : Pt := nav [0, 0] g44p15
def g44_l6 (k : Nat) (c8 : Unit → Option Int) (a0 : (List Nat)) (a1 : Int) (x0_2 : Int) (x1_2 : Int) (n : Nat) : Int → Int → Option Int :=
 Nat.rec (motive := fun _ => Int → Int → Option Int) (fun _ _ => none) (fun _ ih => fun (y6_0 : Int) (y6_1 : Int) => if (decide (y6_1 < fW .i64 (a1 + x1_2))) then ((nthS a0 y6_1).bind fun x3_4 => ih (fW .i64 (fW .i64 (y6_0 * 10) + fW .i64 (fW .u8 (x3_4 - 48)))) (fW .i64 (y6_1 + 1))) else ((g59 k a0 (fW .i64 (fW .i64 (a1 + x1_2) + 1)) y6_0 true).bind fun x4_6 => jn (fun (z7 : Bool) => if z7 then (some (fW .i64 (fW .i64 (x1_2 + 1) + x4_6))) else (c8 ())) (fun j7 => if (decide (2 ≤ y6_0)) then (if (decide (y6_0 ≤ 36)) then (j7 (decide (0 < x4_6))) else (j7 false)) else (j7 false)))) n
theorem g44_l6_s (k : Nat) (c8 : Unit → Option Int) (a0 : (List Nat)) (a1 : Int) (x0_2 : Int) (x1_2 : Int) (n : Nat) (y6_0 : Int) (y6_1 : Int) : g44_l6 k c8 a0 a1 x0_2 x1_2 (n + 1) y6_0 y6_1 = (if (decide (y6_1 < fW .i64 (a1 + x1_2))) then ((nthS a0 y6_1).bind fun x3_4 => (g44_l6 k c8 a0 a1 x0_2 x1_2 n) (fW .i64 (fW .i64 (y6_0 * 10) + fW .i64 (fW .u8 (x3_4 - 48)))) (fW .i64 (y6_1 + 1))) else ((g59 k a0 (fW .i64 (fW .i64 (a1 + x1_2) + 1)) y6_0 true).bind fun x4_6 => jn (fun (z7 : Bool) => if z7 then (some (fW .i64 (fW .i64 (x1_2 + 1) + x4_6))) else (c8 ())) (fun j7 => if (decide (2 ≤ y6_0)) then (if (decide (y6_0 ≤ 36)) then (j7 (decide (0 < x4_6))) else (j7 false)) else (j7 false)))) := rfl
theorem g44_l6_ok (k : Nat) (c8 : Unit → Option Int) (a0 : (List Nat)) (a1 : Int) (x0_2 : Int) (x1_2 : Int) (hc8 : ∀ z8 : Unit, Ok X44 g44p6 ((fun (z8 : Unit) => [(5, .int .i64 x0_2)]) z8) ((fun (z8 : Unit) => (mkH [])) z8) (c8 z8)) : ∀ (n : Nat) (y6_0 : Int) (y6_1 : Int), Ok X44 g44p9 [(0, .str a0), (1, .int .i64 a1), (5, .int .i64 x0_2), (6, .int .i64 x1_2), (7, .int .i64 y6_0), (8, .int .i64 y6_1)] (mkH []) (g44_l6 k c8 a0 a1 x0_2 x1_2 n y6_0 y6_1)
 | 0, _, _ => ok_none
 | n + 1, y6_0, y6_1 => by
  have ih := g44_l6_ok k c8 a0 a1 x0_2 x1_2 hc8 n
  rw [g44_l6_s]
  refine ok_ent (p' := nav [0] g44p9) (by kernel_rfl) ?_
  let E5 : Env := [(43, .bool (decide (y6_1 < fW .i64 (a1 + x1_2)))), (42, .int .i64 (fW .i64 (a1 + x1_2))), (41, .int .i64 x1_2), (40, .int .i64 a1), (39, .int .i64 y6_1), (0, .str a0), (1, .int .i64 a1), (5, .int .i64 x0_2), (6, .int .i64 x1_2), (7, .int .i64 y6_0), (8, .int .i64 y6_1)]
  refine oR 9 (p' := g44p11) (eE := E5) (H' := (mkH [])) (by kernel_rfl) ?_
  refine oS 43 (b := decide (y6_1 < fW .i64 (a1 + x1_2))) (by kernel_rfl) (fun hb => ?_) (fun hb => ?_)
  ·let E6 : Env := ((49, .int .i64 y6_1) :: (48, .str a0) :: (47, .int .i64 (fW .i64 (y6_0 * 10))) :: (46, .int .i64 y6_0) :: (43, .bool true) :: E5)
   refine oR 9 (p' := (atN 4 (ctl1 g44p12))) (eE := E6) (H' := (mkH [])) (by kernel_rfl) ?_
   refine oH (fun (x3_4 : Int) => (.int .u8 x3_4, (mkH []))) (atN 5 (ctl1 g44p12)) (fun x3_4 => ((50, .int .u8 x3_4) :: E6)) (idxH (by kernel_rfl)) (fun _ => by kernel_rfl) (fun x3_4 hx3_4 => ?_)
   let E7 : Env := ((7, .int .i64 (fW .i64 (fW .i64 (y6_0 * 10) + fW .i64 (fW .u8 (x3_4 - 48))))) :: (53, .int .i64 (fW .i64 (fW .i64 (y6_0 * 10) + fW .i64 (fW .u8 (x3_4 - 48))))) :: (52, .int .i64 (fW .i64 (fW .u8 (x3_4 - 48)))) :: (51, .int .u8 (fW .u8 (x3_4 - 48))) :: (50, .int .u8 x3_4) :: E6)
   refine oR 5 (p' := g44p14) (eE := E7) (H' := (mkH [])) (by kernel_rfl) ?_
   refine oK [0, 1, 5, 6, 7, 8] (eE := [(0, .str a0), (1, .int .i64 a1), (5, .int .i64 x0_2), (6, .int .i64 x1_2), (7, .int .i64 (fW .i64 (fW .i64 (y6_0 * 10) + fW .i64 (fW .u8 (x3_4 - 48))))), (8, .int .i64 y6_1)]) (by kernel_rfl) ?_
   let E8 : Env := [(8, .int .i64 (fW .i64 (y6_1 + 1))), (45, .int .i64 (fW .i64 (y6_1 + 1))), (44, .int .i64 y6_1), (0, .str a0), (1, .int .i64 a1), (5, .int .i64 x0_2), (6, .int .i64 x1_2), (7, .int .i64 (fW .i64 (fW .i64 (y6_0 * 10) + fW .i64 (fW .u8 (x3_4 - 48))))), (8, .int .i64 y6_1)]
   refine oR 5 (p' := g44p9) (eE := E8) (H' := (mkH [])) (by kernel_rfl) ?_
   refine oK [0, 1, 5, 6, 7, 8] (eE := [(0, .str a0), (1, .int .i64 a1), (5, .int .i64 x0_2), (6, .int .i64 x1_2), (7, .int .i64 (fW .i64 (fW .i64 (y6_0 * 10) + fW .i64 (fW .u8 (x3_4 - 48))))), (8, .int .i64 (fW .i64 (y6_1 + 1)))]) (by kernel_rfl) ?_
   exact ih (fW .i64 (fW .i64 (y6_0 * 10) + fW .i64 (fW .u8 (x3_4 - 48)))) (fW .i64 (y6_1 + 1))
  ·let E9 : Env := ((59, .int .i64 y6_0) :: (58, .int .i64 (fW .i64 (fW .i64 (a1 + x1_2) + 1))) :: (57, .int .i64 (fW .i64 (a1 + x1_2))) :: (56, .int .i64 x1_2) :: (55, .int .i64 a1) :: (54, .str a0) :: (43, .bool false) :: E5)
   refine oR 10 (p' := (atN 6 (ctl1 g44p13))) (eE := E9) (H' := (mkH [])) (by kernel_rfl) ?_
   refine oC (fun (x4_6 : Int) => .int .i64 x4_6) (atN 7 (ctl1 g44p13)) (fun x4_6 => ((60, .int .i64 x4_6) :: E9)) (fi := 59) (args := [.str a0, .int .i64 (fW .i64 (fW .i64 (a1 + x1_2) + 1)), .int .i64 y6_0, .bool true]) (by kernel_rfl) (by kernel_rfl) (fun _ => by kernel_rfl) (fun r h => g59_ok k a0 (fW .i64 (fW .i64 (a1 + x1_2) + 1)) y6_0 true r h) (fun _ => by kernel_rfl) (fun x4_6 hx4_6 => ?_)
   refine oR 3 (p' := g44p15) (eE := ((9, .int .i64 x4_6) :: (60, .int .i64 x4_6) :: E9)) (H' := (mkH [])) (by kernel_rfl) ?_
   refine oK [5, 6, 7, 9] (eE := [(5, .int .i64 x0_2), (6, .int .i64 x1_2), (7, .int .i64 y6_0), (9, .int .i64 x4_6)]) (by kernel_rfl) ?_
   let E10 : Env := [(63, .bool (decide (2 ≤ y6_0))), (62, .bool (decide (2 ≤ y6_0))), (61, .int .i64 y6_0), (5, .int .i64 x0_2), (6, .int .i64 x1_2), (7, .int .i64 y6_0), (9, .int .i64 x4_6)]
   refine oR 4 (p' := (atN 3 (ctl1 g44p15))) (eE := E10) (H' := (mkH [])) (by kernel_rfl) ?_
   refine oJ (f := fun (z7 : Bool) => if z7 then (some (fW .i64 (fW .i64 (x1_2 + 1) + x4_6))) else (c8 ())) g44p16 (fun (z7 : Bool) => [(5, .int .i64 x0_2), (6, .int .i64 x1_2), (9, .int .i64 x4_6), (70, .bool z7)]) (fun (z7 : Bool) => (mkH [])) (fun z7 => ?_) (fun j7 hj7 => ?_)
   ·refine oS 70 (b := z7) (by kernel_rfl) (fun hb => ?_) (fun hb => ?_)
    ·let E11 : Env := [(4, .int .i64 (fW .i64 (fW .i64 (x1_2 + 1) + x4_6))), (74, .int .i64 (fW .i64 (fW .i64 (x1_2 + 1) + x4_6))), (73, .int .i64 x4_6), (72, .int .i64 (fW .i64 (x1_2 + 1))), (71, .int .i64 x1_2), (70, .bool true), (5, .int .i64 x0_2), (6, .int .i64 x1_2), (9, .int .i64 x4_6), (70, .bool z7)]
     refine oR 10 (p' := .fin) (eE := E11) (H' := (mkH [])) (by kernel_rfl) ?_
     exact oT (r := (fW .i64 (fW .i64 (x1_2 + 1) + x4_6))) (xs := [.int .i64 (fW .i64 (fW .i64 (x1_2 + 1) + x4_6))]) (v := .int .i64 (fW .i64 (fW .i64 (x1_2 + 1) + x4_6))) (by kernel_rfl) (by kernel_rfl) (by kernel_rfl) (.pures (by kernel_rfl)) (by kernel_rfl)
    ·let E12 : Env := [(70, .bool false), (5, .int .i64 x0_2), (6, .int .i64 x1_2), (9, .int .i64 x4_6), (70, .bool z7)]
     refine oR 3 (p' := g44p6) (eE := E12) (H' := (mkH [])) (by kernel_rfl) ?_
     refine oK [5] (eE := [(5, .int .i64 x0_2)]) (by kernel_rfl) ?_
     exact hc8 ()
   ·refine oS 63 (b := decide (2 ≤ y6_0)) (by kernel_rfl) (fun hb => ?_) (fun hb => ?_)
    ·let E13 : Env := ((67, .bool (decide (y6_0 ≤ 36))) :: (66, .bool (decide (y6_0 ≤ 36))) :: (65, .bool (decide (y6_0 ≤ 36))) :: (64, .int .i64 y6_0) :: (63, .bool true) :: E10)
     refine oR 4 (p' := (atN 7 (ctl1 g44p15))) (eE := E13) (H' := (mkH [])) (by kernel_rfl) ?_
     refine oS 67 (b := decide (y6_0 ≤ 36)) (by kernel_rfl) (fun hb => ?_) (fun hb => ?_)
     ·refine oR 4 (p' := g44p16) (eE := ((70, .bool (decide (0 < x4_6))) :: (69, .bool (decide (0 < x4_6))) :: (68, .int .i64 x4_6) :: (67, .bool true) :: E13)) (H' := (mkH [])) (by kernel_rfl) ?_
      refine oK [5, 6, 9, 70] (eE := [(5, .int .i64 x0_2), (6, .int .i64 x1_2), (9, .int .i64 x4_6), (70, .bool (decide (0 < x4_6)))]) (by kernel_rfl) ?_
      exact hj7 (decide (0 < x4_6))
     ·refine oR 4 (p' := g44p16) (eE := ((70, .bool false) :: (69, .tuple []) :: (68, .tuple []) :: (67, .bool false) :: E13)) (H' := (mkH [])) (by kernel_rfl) ?_
      refine oK [5, 6, 9, 70] (eE := [(5, .int .i64 x0_2), (6, .int .i64 x1_2), (9, .int .i64 x4_6), (70, .bool false)]) (by kernel_rfl) ?_
      exact hj7 false
    ·let E14 : Env := ((70, .bool false) :: (69, .tuple []) :: (68, .tuple []) :: (67, .bool false) :: (66, .bool false) :: (65, .tuple []) :: (64, .tuple []) :: (63, .bool false) :: E10)
     refine oR 8 (p' := g44p16) (eE := E14) (H' := (mkH [])) (by kernel_rfl) ?_
     refine oK [5, 6, 9, 70] (eE := [(5, .int .i64 x0_2), (6, .int .i64 x1_2), (9, .int .i64 x4_6), (70, .bool false)]) (by kernel_rfl) ?_
     exact hj7 false
def g44 (k : Nat) (a0 : (List Nat)) (a1 : Int) : Option Int :=
 (g59 k a0 a1 (10 : Int) true).bind fun x0_2 => (g59 k a0 a1 (10 : Int) false).bind fun x1_2 => jn (fun (z5 : Bool) => jn (fun (z8 : Unit) => some x0_2) (fun j8 => if z5 then (g44_l6 k j8 a0 a1 x0_2 x1_2 k 0 a1) else (j8 ()))) (fun j5 => if (decide (0 < x1_2)) then (if (decide (x1_2 < 3)) then (if (decide (fW .i64 (a1 + x1_2) < (a0.length : Int))) then ((nthS a0 (fW .i64 (a1 + x1_2))).bind fun x2_19 => j5 (decide (x2_19 = 35))) else (j5 false)) else (j5 false)) else (j5 false))
theorem g44_ok (k : Nat) (a0 : (List Nat)) (a1 : Int) (r : Int) (h : g44 k a0 a1 = some r) : PureOk Try.prog 44 [.str a0, .int .i64 a1] (.int .i64 r) := by
 refine pure_of X44 (fun _ => rfl) Try.func44 (by decide +kernel) (by kernel_rfl) (t := g44 k a0 a1) ?_ h
 unfold g44
 refine oE (eE := [(0, .str a0), (1, .int .i64 a1)]) (by kernel_rfl) ?_
 let E1 : Env := [(11, .int .i64 a1), (10, .str a0), (4, .int .i64 0), (0, .str a0), (1, .int .i64 a1)]
 refine oR 8 (p' := (atN 2 (ctl1 g44p1))) (eE := E1) (H' := (mkH [])) (by kernel_rfl) ?_
 refine oC (fun (x0_2 : Int) => .int .i64 x0_2) (atN 3 (ctl1 g44p1)) (fun x0_2 => ((12, .int .i64 x0_2) :: E1)) (fi := 59) (args := [.str a0, .int .i64 a1, .int .i64 10, .bool true]) (by kernel_rfl) (by kernel_rfl) (fun _ => by kernel_rfl) (fun r h => g59_ok k a0 a1 (10 : Int) true r h) (fun _ => by kernel_rfl) (fun x0_2 hx0_2 => ?_)
 refine oR 6 (p' := (atN 2 (ctl1 g44p2))) (eE := ((14, .int .i64 a1) :: (13, .str a0) :: (5, .int .i64 x0_2) :: (12, .int .i64 x0_2) :: E1)) (H' := (mkH [])) (by kernel_rfl) ?_
 refine oC (fun (x1_2 : Int) => .int .i64 x1_2) (atN 3 (ctl1 g44p2)) (fun x1_2 => ((15, .int .i64 x1_2) :: (14, .int .i64 a1) :: (13, .str a0) :: (5, .int .i64 x0_2) :: (12, .int .i64 x0_2) :: E1)) (fi := 59) (args := [.str a0, .int .i64 a1, .int .i64 10, .bool false]) (by kernel_rfl) (by kernel_rfl) (fun _ => by kernel_rfl) (fun r h => g59_ok k a0 a1 (10 : Int) false r h) (fun _ => by kernel_rfl) (fun x1_2 hx1_2 => ?_)
 let E2 : Env := ((6, .int .i64 x1_2) :: (15, .int .i64 x1_2) :: (14, .int .i64 a1) :: (13, .str a0) :: (5, .int .i64 x0_2) :: (12, .int .i64 x0_2) :: E1)
 refine oR 4 (p' := g44p3) (eE := E2) (H' := (mkH [])) (by kernel_rfl) ?_
 refine oK [0, 1, 5, 6] (eE := [(0, .str a0), (1, .int .i64 a1), (5, .int .i64 x0_2), (6, .int .i64 x1_2)]) (by kernel_rfl) ?_
 let E3 : Env := [(18, .bool (decide (0 < x1_2))), (17, .bool (decide (0 < x1_2))), (16, .int .i64 x1_2), (0, .str a0), (1, .int .i64 a1), (5, .int .i64 x0_2), (6, .int .i64 x1_2)]
 refine oR 4 (p' := (atN 3 (ctl1 g44p3))) (eE := E3) (H' := (mkH [])) (by kernel_rfl) ?_
 refine oJ (f := fun (z5 : Bool) => jn (fun (z8 : Unit) => some x0_2) (fun j8 => if z5 then (g44_l6 k j8 a0 a1 x0_2 x1_2 k 0 a1) else (j8 ()))) g44p4 (fun (z5 : Bool) => [(0, .str a0), (1, .int .i64 a1), (5, .int .i64 x0_2), (6, .int .i64 x1_2), (37, .bool z5)]) (fun (z5 : Bool) => (mkH [])) (fun z5 => ?_) (fun j5 hj5 => ?_)
 ·refine oJ (f := fun (z8 : Unit) => some x0_2) g44p6 (fun (z8 : Unit) => [(5, .int .i64 x0_2)]) (fun (z8 : Unit) => (mkH [])) (fun z8 => ?_) (fun j8 hj8 => ?_)
  ·refine oR 5 (p' := .fin) (eE := [(4, .int .i64 x0_2), (75, .int .i64 x0_2), (5, .int .i64 x0_2)]) (H' := (mkH [])) (by kernel_rfl) ?_
   exact oT (r := x0_2) (xs := [.int .i64 x0_2]) (v := .int .i64 x0_2) (by kernel_rfl) (by kernel_rfl) (by kernel_rfl) (.pures (by kernel_rfl)) (by kernel_rfl)
  ·refine oS 37 (b := z5) (by kernel_rfl) (fun hb => ?_) (fun hb => ?_)
   ·let E4 : Env := [(8, .int .i64 a1), (38, .int .i64 a1), (7, .int .i64 0), (37, .bool true), (0, .str a0), (1, .int .i64 a1), (5, .int .i64 x0_2), (6, .int .i64 x1_2), (37, .bool z5)]
    refine oR 13 (p' := g44p9) (eE := E4) (H' := (mkH [])) (by kernel_rfl) ?_
    refine oK [0, 1, 5, 6, 7, 8] (eE := [(0, .str a0), (1, .int .i64 a1), (5, .int .i64 x0_2), (6, .int .i64 x1_2), (7, .int .i64 0), (8, .int .i64 a1)]) (by kernel_rfl) ?_
    exact (g44_l6_ok k j8 a0 a1 x0_2 x1_2 hj8 k) 0 a1
   ·let E15 : Env := [(37, .bool false), (0, .str a0), (1, .int .i64 a1), (5, .int .i64 x0_2), (6, .int .i64 x1_2), (37, .bool z5)]
    refine oR 3 (p' := g44p6) (eE := E15) (H' := (mkH [])) (by kernel_rfl) ?_
    refine oK [5] (eE := [(5, .int .i64 x0_2)]) (by kernel_rfl) ?_
    exact hj8 ()
 ·refine oS 18 (b := decide (0 < x1_2)) (by kernel_rfl) (fun hb => ?_) (fun hb => ?_)
  ·let E16 : Env := ((22, .bool (decide (x1_2 < 3))) :: (21, .bool (decide (x1_2 < 3))) :: (20, .bool (decide (x1_2 < 3))) :: (19, .int .i64 x1_2) :: (18, .bool true) :: E3)
   refine oR 4 (p' := (atN 7 (ctl1 g44p3))) (eE := E16) (H' := (mkH [])) (by kernel_rfl) ?_
   refine oS 22 (b := decide (x1_2 < 3)) (by kernel_rfl) (fun hb => ?_) (fun hb => ?_)
   ·let E17 : Env := ((30, .bool (decide (fW .i64 (a1 + x1_2) < (a0.length : Int)))) :: (29, .bool (decide (fW .i64 (a1 + x1_2) < (a0.length : Int)))) :: (28, .bool (decide (fW .i64 (a1 + x1_2) < (a0.length : Int)))) :: (27, .int .i64 (a0.length : Int)) :: (26, .str a0) :: (25, .int .i64 (fW .i64 (a1 + x1_2))) :: (24, .int .i64 x1_2) :: (23, .int .i64 a1) :: (22, .bool true) :: E16)
    refine oR 8 (p' := (atN 15 (ctl1 g44p3))) (eE := E17) (H' := (mkH [])) (by kernel_rfl) ?_
    refine oS 30 (b := decide (fW .i64 (a1 + x1_2) < (a0.length : Int))) (by kernel_rfl) (fun hb => ?_) (fun hb => ?_)
    ·let E18 : Env := ((34, .int .i64 (fW .i64 (a1 + x1_2))) :: (33, .int .i64 x1_2) :: (32, .int .i64 a1) :: (31, .str a0) :: (30, .bool true) :: E17)
     refine oR 4 (p' := (atN 19 (ctl1 g44p3))) (eE := E18) (H' := (mkH [])) (by kernel_rfl) ?_
     refine oH (fun (x2_19 : Int) => (.int .u8 x2_19, (mkH []))) (atN 20 (ctl1 g44p3)) (fun x2_19 => ((35, .int .u8 x2_19) :: E18)) (idxH (by kernel_rfl)) (fun _ => by kernel_rfl) (fun x2_19 hx2_19 => ?_)
     refine oR 3 (p' := g44p4) (eE := ((37, .bool (decide (x2_19 = 35))) :: (36, .bool (decide (x2_19 = 35))) :: (35, .int .u8 x2_19) :: E18)) (H' := (mkH [])) (by kernel_rfl) ?_
     refine oK [0, 1, 5, 6, 37] (eE := [(0, .str a0), (1, .int .i64 a1), (5, .int .i64 x0_2), (6, .int .i64 x1_2), (37, .bool (decide (x2_19 = 35)))]) (by kernel_rfl) ?_
     exact hj5 (decide (x2_19 = 35))
    ·let E19 : Env := ((37, .bool false) :: (36, .tuple []) :: (35, .tuple []) :: (34, .tuple []) :: (33, .tuple []) :: (32, .tuple []) :: (31, .tuple []) :: (30, .bool false) :: E17)
     refine oR 8 (p' := g44p4) (eE := E19) (H' := (mkH [])) (by kernel_rfl) ?_
     refine oK [0, 1, 5, 6, 37] (eE := [(0, .str a0), (1, .int .i64 a1), (5, .int .i64 x0_2), (6, .int .i64 x1_2), (37, .bool false)]) (by kernel_rfl) ?_
     exact hj5 false
   ·let E20 : Env := ((37, .bool false) :: (36, .tuple []) :: (35, .tuple []) :: (34, .tuple []) :: (33, .tuple []) :: (32, .tuple []) :: (31, .tuple []) :: (30, .bool false) :: (29, .bool false) :: (28, .tuple []) :: (27, .tuple []) :: (26, .tuple []) :: (25, .tuple []) :: (24, .tuple []) :: (23, .tuple []) :: (22, .bool false) :: E16)
    refine oR 16 (p' := g44p4) (eE := E20) (H' := (mkH [])) (by kernel_rfl) ?_
    refine oK [0, 1, 5, 6, 37] (eE := [(0, .str a0), (1, .int .i64 a1), (5, .int .i64 x0_2), (6, .int .i64 x1_2), (37, .bool false)]) (by kernel_rfl) ?_
    exact hj5 false
  ·let E21 : Env := ((37, .bool false) :: (36, .tuple []) :: (35, .tuple []) :: (34, .tuple []) :: (33, .tuple []) :: (32, .tuple []) :: (31, .tuple []) :: (30, .bool false) :: (29, .bool false) :: (28, .tuple []) :: (27, .tuple []) :: (26, .tuple []) :: (25, .tuple []) :: (24, .tuple []) :: (23, .tuple []) :: (22, .bool false) :: (21, .bool false) :: (20, .tuple []) :: (19, .tuple []) :: (18, .bool false) :: E3)
   refine oR 20 (p' := g44p4) (eE := E21) (H' := (mkH [])) (by kernel_rfl) ?_
   refine oK [0, 1, 5, 6, 37] (eE := [(0, .str a0), (1, .int .i64 a1), (5, .int .i64 x0_2), (6, .int .i64 x1_2), (37, .bool false)]) (by kernel_rfl) ?_
   exact hj5 false
end
end Go.Proofs.Ytokcjgjgojlhbaa.Am
set_option maxRecDepth 100000
set_option linter.unusedVariables false
namespace Go.Proofs.Ytokcjgjgojlhbaa.Am
noncomputable section
open Go
def X43 : Fx Int := ⟨Try.prog, cx, Try.f43, fun r => .int .i64 r, 0, fun _ => H0, cxTi, cxOrd⟩
def g43p0 : Pt := nav [0] (bodyAt Try.f43)
def g43p1 : Pt := nav [0, 0, 0] g43p0
def g43p2 : Pt := nav [0, 0, 0, 0] g43p1
def g43p3 : Pt := nav [0, 0] g43p2
def g43p5 : Pt := nav [2, 0, 0] g43p3
def g43p7 : Pt := nav [0, 0, 0, 0] g43p5
def g43p8 : Pt := nav [0, 0] g43p7
def g43p10 : Pt := nav [2, 0, 0] g43p8
def g43p11 : Pt := nav [0, 0, 0, 0] g43p10
def g43p12 : Pt := nav [0, 0] g43p11
def g43p13 : Pt := nav [1, 0] g43p12
def g43p14 : Pt := nav [2, 0, 0] g43p12
def g43p15 : Pt := nav [0, 0, 0, 0] g43p13
def g43p16 : Pt := nav [0, 0] g43p15
def g43p18 : Pt := nav [2, 0, 0] g43p16
def g43p19 : Pt := nav [0, 0, 0] g43p18
def g43p20 : Pt := nav [0, 0] g43p19
def g43 (k : Nat) (a0 : (List Nat)) (a1 : Int) : Option Int :=
 (g59 k a0 a1 (10 : Int) true).bind fun x0_3 => jn (fun (z6 : Bool) => if z6 then (some (0 : Int)) else ((g59 k a0 (fW .i64 (fW .i64 (a1 + x0_3) + 1)) (10 : Int) true).bind fun x2_3 => if (decide (x2_3 = 0)) then (some (0 : Int)) else (jn (fun (z7 : Bool) => jn (fun (z9 : Int) => some (fW .i64 (z9 - a1))) (fun j9 => if z7 then (jn (fun (z8 : Bool) => jn (fun (z10 : Int) => (g59 k a0 z10 (10 : Int) true).bind fun x5_2 => if (decide (0 < x5_2)) then (j9 (fW .i64 (z10 + x5_2))) else (j9 (fW .i64 (fW .i64 (fW .i64 (a1 + x0_3) + 1) + x2_3)))) (fun j10 => if z8 then (j10 (fW .i64 (fW .i64 (fW .i64 (fW .i64 (fW .i64 (a1 + x0_3) + 1) + x2_3) + 1) + 1))) else (j10 (fW .i64 (fW .i64 (fW .i64 (fW .i64 (a1 + x0_3) + 1) + x2_3) + 1))))) (fun j8 => if (decide (fW .i64 (fW .i64 (fW .i64 (fW .i64 (a1 + x0_3) + 1) + x2_3) + 1) < (a0.length : Int))) then ((nthS a0 (fW .i64 (fW .i64 (fW .i64 (fW .i64 (a1 + x0_3) + 1) + x2_3) + 1))).bind fun x4_7 => if (decide (x4_7 = 43)) then (j8 true) else ((nthS a0 (fW .i64 (fW .i64 (fW .i64 (fW .i64 (a1 + x0_3) + 1) + x2_3) + 1))).bind fun x4_12 => j8 (decide (x4_12 = 45)))) else (j8 false))) else (j9 (fW .i64 (fW .i64 (fW .i64 (a1 + x0_3) + 1) + x2_3))))) (fun j7 => if (decide (fW .i64 (fW .i64 (fW .i64 (a1 + x0_3) + 1) + x2_3) < (a0.length : Int))) then ((nthS a0 (fW .i64 (fW .i64 (fW .i64 (a1 + x0_3) + 1) + x2_3))).bind fun x3_7 => if (decide (x3_7 = 101)) then (j7 true) else ((nthS a0 (fW .i64 (fW .i64 (fW .i64 (a1 + x0_3) + 1) + x2_3))).bind fun x3_12 => j7 (decide (x3_12 = 69)))) else (j7 false))))) (fun j6 => if (decide (fW .i64 (a1 + x0_3) = a1)) then (j6 true) else (if (decide ((a0.length : Int) ≤ fW .i64 (a1 + x0_3))) then (j6 true) else ((nthS a0 (fW .i64 (a1 + x0_3))).bind fun x1_12 => j6 (!decide (x1_12 = 46)))))
theorem g43_ok (k : Nat) (a0 : (List Nat)) (a1 : Int) (r : Int) (h : g43 k a0 a1 = some r) : PureOk Try.prog 43 [.str a0, .int .i64 a1] (.int .i64 r) := by
 refine pure_of X43 (fun _ => rfl) Try.func43 (by decide +kernel) (by kernel_rfl) (t := g43 k a0 a1) ?_ h
 unfold g43
 refine oE (eE := [(0, .str a0), (1, .int .i64 a1)]) (by kernel_rfl) ?_
 let E1 : Env := [(11, .int .i64 a1), (10, .str a0), (9, .int .i64 a1), (4, .int .i64 0), (0, .str a0), (1, .int .i64 a1)]
 refine oR 9 (p' := (atN 3 (ctl1 g43p1))) (eE := E1) (H' := (mkH [])) (by kernel_rfl) ?_
 refine oC (fun (x0_3 : Int) => .int .i64 x0_3) (atN 4 (ctl1 g43p1)) (fun x0_3 => ((12, .int .i64 x0_3) :: E1)) (fi := 59) (args := [.str a0, .int .i64 a1, .int .i64 10, .bool true]) (by kernel_rfl) (by kernel_rfl) (fun _ => by kernel_rfl) (fun r h => g59_ok k a0 a1 (10 : Int) true r h) (fun _ => by kernel_rfl) (fun x0_3 hx0_3 => ?_)
 let E2 : Env := ((17, .bool (decide (fW .i64 (a1 + x0_3) = a1))) :: (16, .bool (decide (fW .i64 (a1 + x0_3) = a1))) :: (15, .int .i64 a1) :: (14, .int .i64 (fW .i64 (a1 + x0_3))) :: (5, .int .i64 (fW .i64 (a1 + x0_3))) :: (13, .int .i64 (fW .i64 (a1 + x0_3))) :: (12, .int .i64 x0_3) :: E1)
 refine oR 10 (p' := (atN 4 (ctl1 g43p2))) (eE := E2) (H' := (mkH [])) (by kernel_rfl) ?_
 refine oJ (f := fun (z6 : Bool) => if z6 then (some (0 : Int)) else ((g59 k a0 (fW .i64 (fW .i64 (a1 + x0_3) + 1)) (10 : Int) true).bind fun x2_3 => if (decide (x2_3 = 0)) then (some (0 : Int)) else (jn (fun (z7 : Bool) => jn (fun (z9 : Int) => some (fW .i64 (z9 - a1))) (fun j9 => if z7 then (jn (fun (z8 : Bool) => jn (fun (z10 : Int) => (g59 k a0 z10 (10 : Int) true).bind fun x5_2 => if (decide (0 < x5_2)) then (j9 (fW .i64 (z10 + x5_2))) else (j9 (fW .i64 (fW .i64 (fW .i64 (a1 + x0_3) + 1) + x2_3)))) (fun j10 => if z8 then (j10 (fW .i64 (fW .i64 (fW .i64 (fW .i64 (fW .i64 (a1 + x0_3) + 1) + x2_3) + 1) + 1))) else (j10 (fW .i64 (fW .i64 (fW .i64 (fW .i64 (a1 + x0_3) + 1) + x2_3) + 1))))) (fun j8 => if (decide (fW .i64 (fW .i64 (fW .i64 (fW .i64 (a1 + x0_3) + 1) + x2_3) + 1) < (a0.length : Int))) then ((nthS a0 (fW .i64 (fW .i64 (fW .i64 (fW .i64 (a1 + x0_3) + 1) + x2_3) + 1))).bind fun x4_7 => if (decide (x4_7 = 43)) then (j8 true) else ((nthS a0 (fW .i64 (fW .i64 (fW .i64 (fW .i64 (a1 + x0_3) + 1) + x2_3) + 1))).bind fun x4_12 => j8 (decide (x4_12 = 45)))) else (j8 false))) else (j9 (fW .i64 (fW .i64 (fW .i64 (a1 + x0_3) + 1) + x2_3))))) (fun j7 => if (decide (fW .i64 (fW .i64 (fW .i64 (a1 + x0_3) + 1) + x2_3) < (a0.length : Int))) then ((nthS a0 (fW .i64 (fW .i64 (fW .i64 (a1 + x0_3) + 1) + x2_3))).bind fun x3_7 => if (decide (x3_7 = 101)) then (j7 true) else ((nthS a0 (fW .i64 (fW .i64 (fW .i64 (a1 + x0_3) + 1) + x2_3))).bind fun x3_12 => j7 (decide (x3_12 = 69)))) else (j7 false))))) g43p3 (fun (z6 : Bool) => [(0, .str a0), (1, .int .i64 a1), (5, .int .i64 (fW .i64 (a1 + x0_3))), (28, .bool z6)]) (fun (z6 : Bool) => (mkH [])) (fun z6 => ?_) (fun j6 hj6 => ?_)
 ·refine oS 28 (b := z6) (by kernel_rfl) (fun hb => ?_) (fun hb => ?_)
  ·let E3 : Env := [(4, .int .i64 0), (28, .bool true), (0, .str a0), (1, .int .i64 a1), (5, .int .i64 (fW .i64 (a1 + x0_3))), (28, .bool z6)]
   refine oR 6 (p' := .fin) (eE := E3) (H' := (mkH [])) (by kernel_rfl) ?_
   exact oT (r := (0 : Int)) (xs := [.int .i64 0]) (v := .int .i64 0) (by kernel_rfl) (by kernel_rfl) (by kernel_rfl) (.pures (by kernel_rfl)) (by kernel_rfl)
  ·let E4 : Env := [(31, .int .i64 (fW .i64 (fW .i64 (a1 + x0_3) + 1))), (30, .int .i64 (fW .i64 (a1 + x0_3))), (29, .str a0), (28, .bool false), (0, .str a0), (1, .int .i64 a1), (5, .int .i64 (fW .i64 (a1 + x0_3))), (28, .bool z6)]
   refine oR 7 (p' := (atN 3 (ctl1 g43p5))) (eE := E4) (H' := (mkH [])) (by kernel_rfl) ?_
   refine oC (fun (x2_3 : Int) => .int .i64 x2_3) (atN 4 (ctl1 g43p5)) (fun x2_3 => ((32, .int .i64 x2_3) :: E4)) (fi := 59) (args := [.str a0, .int .i64 (fW .i64 (fW .i64 (a1 + x0_3) + 1)), .int .i64 10, .bool true]) (by kernel_rfl) (by kernel_rfl) (fun _ => by kernel_rfl) (fun r h => g59_ok k a0 (fW .i64 (fW .i64 (a1 + x0_3) + 1)) (10 : Int) true r h) (fun _ => by kernel_rfl) (fun x2_3 hx2_3 => ?_)
   refine oR 8 (p' := g43p8) (eE := ((34, .bool (decide (x2_3 = 0))) :: (33, .int .i64 x2_3) :: (6, .int .i64 x2_3) :: (32, .int .i64 x2_3) :: E4)) (H' := (mkH [])) (by kernel_rfl) ?_
   refine oK [0, 1, 5, 6, 34] (eE := [(0, .str a0), (1, .int .i64 a1), (5, .int .i64 (fW .i64 (a1 + x0_3))), (6, .int .i64 x2_3), (34, .bool (decide (x2_3 = 0)))]) (by kernel_rfl) ?_
   refine oS 34 (b := decide (x2_3 = 0)) (by kernel_rfl) (fun hb => ?_) (fun hb => ?_)
   ·let E5 : Env := [(4, .int .i64 0), (34, .bool true), (0, .str a0), (1, .int .i64 a1), (5, .int .i64 (fW .i64 (a1 + x0_3))), (6, .int .i64 x2_3), (34, .bool (decide (x2_3 = 0)))]
    refine oR 6 (p' := .fin) (eE := E5) (H' := (mkH [])) (by kernel_rfl) ?_
    exact oT (r := (0 : Int)) (xs := [.int .i64 0]) (v := .int .i64 0) (by kernel_rfl) (by kernel_rfl) (by kernel_rfl) (.pures (by kernel_rfl)) (by kernel_rfl)
   ·let E6 : Env := [(5, .int .i64 (fW .i64 (fW .i64 (fW .i64 (a1 + x0_3) + 1) + x2_3))), (38, .int .i64 (fW .i64 (fW .i64 (fW .i64 (a1 + x0_3) + 1) + x2_3))), (37, .int .i64 x2_3), (36, .int .i64 (fW .i64 (fW .i64 (a1 + x0_3) + 1))), (35, .int .i64 (fW .i64 (a1 + x0_3))), (34, .bool false), (0, .str a0), (1, .int .i64 a1), (5, .int .i64 (fW .i64 (a1 + x0_3))), (6, .int .i64 x2_3), (34, .bool (decide (x2_3 = 0)))]
    refine oR 12 (p' := g43p11) (eE := E6) (H' := (mkH [])) (by kernel_rfl) ?_
    refine oK [0, 1, 5] (eE := [(0, .str a0), (1, .int .i64 a1), (5, .int .i64 (fW .i64 (fW .i64 (fW .i64 (a1 + x0_3) + 1) + x2_3)))]) (by kernel_rfl) ?_
    let E7 : Env := [(43, .bool (decide (fW .i64 (fW .i64 (fW .i64 (a1 + x0_3) + 1) + x2_3) < (a0.length : Int)))), (42, .bool (decide (fW .i64 (fW .i64 (fW .i64 (a1 + x0_3) + 1) + x2_3) < (a0.length : Int)))), (41, .int .i64 (a0.length : Int)), (40, .str a0), (39, .int .i64 (fW .i64 (fW .i64 (fW .i64 (a1 + x0_3) + 1) + x2_3))), (0, .str a0), (1, .int .i64 a1), (5, .int .i64 (fW .i64 (fW .i64 (fW .i64 (a1 + x0_3) + 1) + x2_3)))]
    refine oR 6 (p' := (atN 5 (ctl1 g43p11))) (eE := E7) (H' := (mkH [])) (by kernel_rfl) ?_
    refine oJ (f := fun (z7 : Bool) => jn (fun (z9 : Int) => some (fW .i64 (z9 - a1))) (fun j9 => if z7 then (jn (fun (z8 : Bool) => jn (fun (z10 : Int) => (g59 k a0 z10 (10 : Int) true).bind fun x5_2 => if (decide (0 < x5_2)) then (j9 (fW .i64 (z10 + x5_2))) else (j9 (fW .i64 (fW .i64 (fW .i64 (a1 + x0_3) + 1) + x2_3)))) (fun j10 => if z8 then (j10 (fW .i64 (fW .i64 (fW .i64 (fW .i64 (fW .i64 (a1 + x0_3) + 1) + x2_3) + 1) + 1))) else (j10 (fW .i64 (fW .i64 (fW .i64 (fW .i64 (a1 + x0_3) + 1) + x2_3) + 1))))) (fun j8 => if (decide (fW .i64 (fW .i64 (fW .i64 (fW .i64 (a1 + x0_3) + 1) + x2_3) + 1) < (a0.length : Int))) then ((nthS a0 (fW .i64 (fW .i64 (fW .i64 (fW .i64 (a1 + x0_3) + 1) + x2_3) + 1))).bind fun x4_7 => if (decide (x4_7 = 43)) then (j8 true) else ((nthS a0 (fW .i64 (fW .i64 (fW .i64 (fW .i64 (a1 + x0_3) + 1) + x2_3) + 1))).bind fun x4_12 => j8 (decide (x4_12 = 45)))) else (j8 false))) else (j9 (fW .i64 (fW .i64 (fW .i64 (a1 + x0_3) + 1) + x2_3))))) g43p12 (fun (z7 : Bool) => [(0, .str a0), (1, .int .i64 a1), (5, .int .i64 (fW .i64 (fW .i64 (fW .i64 (a1 + x0_3) + 1) + x2_3))), (54, .bool z7)]) (fun (z7 : Bool) => (mkH [])) (fun z7 => ?_) (fun j7 hj7 => ?_)
    ·refine oJ (f := fun (z9 : Int) => some (fW .i64 (z9 - a1))) g43p14 (fun (z9 : Int) => [(1, .int .i64 a1), (5, .int .i64 z9)]) (fun (z9 : Int) => (mkH [])) (fun z9 => ?_) (fun j9 hj9 => ?_)
     ·let E8 : Env := [(4, .int .i64 (fW .i64 (z9 - a1))), (85, .int .i64 (fW .i64 (z9 - a1))), (84, .int .i64 a1), (83, .int .i64 z9), (1, .int .i64 a1), (5, .int .i64 z9)]
      refine oR 7 (p' := .fin) (eE := E8) (H' := (mkH [])) (by kernel_rfl) ?_
      exact oT (r := (fW .i64 (z9 - a1))) (xs := [.int .i64 (fW .i64 (z9 - a1))]) (v := .int .i64 (fW .i64 (z9 - a1))) (by kernel_rfl) (by kernel_rfl) (by kernel_rfl) (.pures (by kernel_rfl)) (by kernel_rfl)
     ·refine oS 54 (b := z7) (by kernel_rfl) (fun hb => ?_) (fun hb => ?_)
      ·let E9 : Env := [(61, .bool (decide (fW .i64 (fW .i64 (fW .i64 (fW .i64 (a1 + x0_3) + 1) + x2_3) + 1) < (a0.length : Int)))), (60, .bool (decide (fW .i64 (fW .i64 (fW .i64 (fW .i64 (a1 + x0_3) + 1) + x2_3) + 1) < (a0.length : Int)))), (59, .int .i64 (a0.length : Int)), (58, .str a0), (57, .int .i64 (fW .i64 (fW .i64 (fW .i64 (fW .i64 (a1 + x0_3) + 1) + x2_3) + 1))), (7, .int .i64 (fW .i64 (fW .i64 (fW .i64 (fW .i64 (a1 + x0_3) + 1) + x2_3) + 1))), (56, .int .i64 (fW .i64 (fW .i64 (fW .i64 (fW .i64 (a1 + x0_3) + 1) + x2_3) + 1))), (55, .int .i64 (fW .i64 (fW .i64 (fW .i64 (a1 + x0_3) + 1) + x2_3))), (54, .bool true), (0, .str a0), (1, .int .i64 a1), (5, .int .i64 (fW .i64 (fW .i64 (fW .i64 (a1 + x0_3) + 1) + x2_3))), (54, .bool z7)]
       refine oR 15 (p' := (atN 5 (ctl1 g43p15))) (eE := E9) (H' := (mkH [])) (by kernel_rfl) ?_
       refine oJ (f := fun (z8 : Bool) => jn (fun (z10 : Int) => (g59 k a0 z10 (10 : Int) true).bind fun x5_2 => if (decide (0 < x5_2)) then (j9 (fW .i64 (z10 + x5_2))) else (j9 (fW .i64 (fW .i64 (fW .i64 (a1 + x0_3) + 1) + x2_3)))) (fun j10 => if z8 then (j10 (fW .i64 (fW .i64 (fW .i64 (fW .i64 (fW .i64 (a1 + x0_3) + 1) + x2_3) + 1) + 1))) else (j10 (fW .i64 (fW .i64 (fW .i64 (fW .i64 (a1 + x0_3) + 1) + x2_3) + 1))))) g43p16 (fun (z8 : Bool) => [(0, .str a0), (1, .int .i64 a1), (5, .int .i64 (fW .i64 (fW .i64 (fW .i64 (a1 + x0_3) + 1) + x2_3))), (7, .int .i64 (fW .i64 (fW .i64 (fW .i64 (fW .i64 (a1 + x0_3) + 1) + x2_3) + 1))), (72, .bool z8)]) (fun (z8 : Bool) => (mkH [])) (fun z8 => ?_) (fun j8 hj8 => ?_)
       ·refine oJ (f := fun (z10 : Int) => (g59 k a0 z10 (10 : Int) true).bind fun x5_2 => if (decide (0 < x5_2)) then (j9 (fW .i64 (z10 + x5_2))) else (j9 (fW .i64 (fW .i64 (fW .i64 (a1 + x0_3) + 1) + x2_3)))) g43p18 (fun (z10 : Int) => [(0, .str a0), (1, .int .i64 a1), (5, .int .i64 (fW .i64 (fW .i64 (fW .i64 (a1 + x0_3) + 1) + x2_3))), (7, .int .i64 z10)]) (fun (z10 : Int) => (mkH [])) (fun z10 => ?_) (fun j10 hj10 => ?_)
        ·let E10 : Env := [(76, .int .i64 z10), (75, .str a0), (0, .str a0), (1, .int .i64 a1), (5, .int .i64 (fW .i64 (fW .i64 (fW .i64 (a1 + x0_3) + 1) + x2_3))), (7, .int .i64 z10)]
         refine oR 3 (p' := (atN 2 (ctl1 g43p18))) (eE := E10) (H' := (mkH [])) (by kernel_rfl) ?_
         refine oC (fun (x5_2 : Int) => .int .i64 x5_2) (atN 3 (ctl1 g43p18)) (fun x5_2 => ((77, .int .i64 x5_2) :: E10)) (fi := 59) (args := [.str a0, .int .i64 z10, .int .i64 10, .bool true]) (by kernel_rfl) (by kernel_rfl) (fun _ => by kernel_rfl) (fun r h => g59_ok k a0 z10 (10 : Int) true r h) (fun _ => by kernel_rfl) (fun x5_2 hx5_2 => ?_)
         refine oR 7 (p' := g43p20) (eE := ((79, .bool (decide (0 < x5_2))) :: (78, .int .i64 x5_2) :: (8, .int .i64 x5_2) :: (77, .int .i64 x5_2) :: E10)) (H' := (mkH [])) (by kernel_rfl) ?_
         refine oS 79 (b := decide (0 < x5_2)) (by kernel_rfl) (fun hb => ?_) (fun hb => ?_)
         ·let E11 : Env := ((5, .int .i64 (fW .i64 (z10 + x5_2))) :: (82, .int .i64 (fW .i64 (z10 + x5_2))) :: (81, .int .i64 x5_2) :: (80, .int .i64 z10) :: (79, .bool true) :: (79, .bool (decide (0 < x5_2))) :: (78, .int .i64 x5_2) :: (8, .int .i64 x5_2) :: (77, .int .i64 x5_2) :: E10)
          refine oR 8 (p' := g43p14) (eE := E11) (H' := (mkH [])) (by kernel_rfl) ?_
          refine oK [1, 5] (eE := [(1, .int .i64 a1), (5, .int .i64 (fW .i64 (z10 + x5_2)))]) (by kernel_rfl) ?_
          exact hj9 (fW .i64 (z10 + x5_2))
         ·let E12 : Env := ((79, .bool false) :: (79, .bool (decide (0 < x5_2))) :: (78, .int .i64 x5_2) :: (8, .int .i64 x5_2) :: (77, .int .i64 x5_2) :: E10)
          refine oR 3 (p' := g43p14) (eE := E12) (H' := (mkH [])) (by kernel_rfl) ?_
          refine oK [1, 5] (eE := [(1, .int .i64 a1), (5, .int .i64 (fW .i64 (fW .i64 (fW .i64 (a1 + x0_3) + 1) + x2_3)))]) (by kernel_rfl) ?_
          exact hj9 (fW .i64 (fW .i64 (fW .i64 (a1 + x0_3) + 1) + x2_3))
        ·refine oS 72 (b := z8) (by kernel_rfl) (fun hb => ?_) (fun hb => ?_)
         ·let E13 : Env := [(7, .int .i64 (fW .i64 (fW .i64 (fW .i64 (fW .i64 (fW .i64 (a1 + x0_3) + 1) + x2_3) + 1) + 1))), (74, .int .i64 (fW .i64 (fW .i64 (fW .i64 (fW .i64 (fW .i64 (a1 + x0_3) + 1) + x2_3) + 1) + 1))), (73, .int .i64 (fW .i64 (fW .i64 (fW .i64 (fW .i64 (a1 + x0_3) + 1) + x2_3) + 1))), (72, .bool true), (0, .str a0), (1, .int .i64 a1), (5, .int .i64 (fW .i64 (fW .i64 (fW .i64 (a1 + x0_3) + 1) + x2_3))), (7, .int .i64 (fW .i64 (fW .i64 (fW .i64 (fW .i64 (a1 + x0_3) + 1) + x2_3) + 1))), (72, .bool z8)]
          refine oR 7 (p' := g43p18) (eE := E13) (H' := (mkH [])) (by kernel_rfl) ?_
          refine oK [0, 1, 5, 7] (eE := [(0, .str a0), (1, .int .i64 a1), (5, .int .i64 (fW .i64 (fW .i64 (fW .i64 (a1 + x0_3) + 1) + x2_3))), (7, .int .i64 (fW .i64 (fW .i64 (fW .i64 (fW .i64 (fW .i64 (a1 + x0_3) + 1) + x2_3) + 1) + 1)))]) (by kernel_rfl) ?_
          exact hj10 (fW .i64 (fW .i64 (fW .i64 (fW .i64 (fW .i64 (a1 + x0_3) + 1) + x2_3) + 1) + 1))
         ·let E14 : Env := [(72, .bool false), (0, .str a0), (1, .int .i64 a1), (5, .int .i64 (fW .i64 (fW .i64 (fW .i64 (a1 + x0_3) + 1) + x2_3))), (7, .int .i64 (fW .i64 (fW .i64 (fW .i64 (fW .i64 (a1 + x0_3) + 1) + x2_3) + 1))), (72, .bool z8)]
          refine oR 3 (p' := g43p18) (eE := E14) (H' := (mkH [])) (by kernel_rfl) ?_
          refine oK [0, 1, 5, 7] (eE := [(0, .str a0), (1, .int .i64 a1), (5, .int .i64 (fW .i64 (fW .i64 (fW .i64 (a1 + x0_3) + 1) + x2_3))), (7, .int .i64 (fW .i64 (fW .i64 (fW .i64 (fW .i64 (a1 + x0_3) + 1) + x2_3) + 1)))]) (by kernel_rfl) ?_
          exact hj10 (fW .i64 (fW .i64 (fW .i64 (fW .i64 (a1 + x0_3) + 1) + x2_3) + 1))
       ·refine oS 61 (b := decide (fW .i64 (fW .i64 (fW .i64 (fW .i64 (a1 + x0_3) + 1) + x2_3) + 1) < (a0.length : Int))) (by kernel_rfl) (fun hb => ?_) (fun hb => ?_)
        ·refine oR 2 (p' := (atN 7 (ctl1 g43p15))) (eE := ((63, .int .i64 (fW .i64 (fW .i64 (fW .i64 (fW .i64 (a1 + x0_3) + 1) + x2_3) + 1))) :: (62, .str a0) :: (61, .bool true) :: E9)) (H' := (mkH [])) (by kernel_rfl) ?_
         refine oH (fun (x4_7 : Int) => (.int .u8 x4_7, (mkH []))) (atN 8 (ctl1 g43p15)) (fun x4_7 => ((64, .int .u8 x4_7) :: (63, .int .i64 (fW .i64 (fW .i64 (fW .i64 (fW .i64 (a1 + x0_3) + 1) + x2_3) + 1))) :: (62, .str a0) :: (61, .bool true) :: E9)) (idxH (by kernel_rfl)) (fun _ => by kernel_rfl) (fun x4_7 hx4_7 => ?_)
         let E15 : Env := ((66, .bool (decide (x4_7 = 43))) :: (65, .bool (decide (x4_7 = 43))) :: (64, .int .u8 x4_7) :: (63, .int .i64 (fW .i64 (fW .i64 (fW .i64 (fW .i64 (a1 + x0_3) + 1) + x2_3) + 1))) :: (62, .str a0) :: (61, .bool true) :: E9)
         refine oR 2 (p' := (atN 10 (ctl1 g43p15))) (eE := E15) (H' := (mkH [])) (by kernel_rfl) ?_
         refine oS 66 (b := decide (x4_7 = 43)) (by kernel_rfl) (fun hb => ?_) (fun hb => ?_)
         ·let E16 : Env := ((72, .bool true) :: (71, .bool true) :: (70, .tuple []) :: (69, .tuple []) :: (68, .tuple []) :: (67, .tuple []) :: (66, .bool true) :: E15)
          refine oR 7 (p' := g43p16) (eE := E16) (H' := (mkH [])) (by kernel_rfl) ?_
          refine oK [0, 1, 5, 7, 72] (eE := [(0, .str a0), (1, .int .i64 a1), (5, .int .i64 (fW .i64 (fW .i64 (fW .i64 (a1 + x0_3) + 1) + x2_3))), (7, .int .i64 (fW .i64 (fW .i64 (fW .i64 (fW .i64 (a1 + x0_3) + 1) + x2_3) + 1))), (72, .bool true)]) (by kernel_rfl) ?_
          exact hj8 true
         ·refine oR 2 (p' := (atN 12 (ctl1 g43p15))) (eE := ((68, .int .i64 (fW .i64 (fW .i64 (fW .i64 (fW .i64 (a1 + x0_3) + 1) + x2_3) + 1))) :: (67, .str a0) :: (66, .bool false) :: E15)) (H' := (mkH [])) (by kernel_rfl) ?_
          refine oH (fun (x4_12 : Int) => (.int .u8 x4_12, (mkH []))) (atN 13 (ctl1 g43p15)) (fun x4_12 => ((69, .int .u8 x4_12) :: (68, .int .i64 (fW .i64 (fW .i64 (fW .i64 (fW .i64 (a1 + x0_3) + 1) + x2_3) + 1))) :: (67, .str a0) :: (66, .bool false) :: E15)) (idxH (by kernel_rfl)) (fun _ => by kernel_rfl) (fun x4_12 hx4_12 => ?_)
          let E17 : Env := ((72, .bool (decide (x4_12 = 45))) :: (71, .bool (decide (x4_12 = 45))) :: (70, .bool (decide (x4_12 = 45))) :: (69, .int .u8 x4_12) :: (68, .int .i64 (fW .i64 (fW .i64 (fW .i64 (fW .i64 (a1 + x0_3) + 1) + x2_3) + 1))) :: (67, .str a0) :: (66, .bool false) :: E15)
          refine oR 4 (p' := g43p16) (eE := E17) (H' := (mkH [])) (by kernel_rfl) ?_
          refine oK [0, 1, 5, 7, 72] (eE := [(0, .str a0), (1, .int .i64 a1), (5, .int .i64 (fW .i64 (fW .i64 (fW .i64 (a1 + x0_3) + 1) + x2_3))), (7, .int .i64 (fW .i64 (fW .i64 (fW .i64 (fW .i64 (a1 + x0_3) + 1) + x2_3) + 1))), (72, .bool (decide (x4_12 = 45)))]) (by kernel_rfl) ?_
          exact hj8 (decide (x4_12 = 45))
        ·let E18 : Env := ((72, .bool false) :: (71, .tuple []) :: (70, .tuple []) :: (69, .tuple []) :: (68, .tuple []) :: (67, .tuple []) :: (66, .tuple []) :: (65, .tuple []) :: (64, .tuple []) :: (63, .tuple []) :: (62, .tuple []) :: (61, .bool false) :: E9)
         refine oR 12 (p' := g43p16) (eE := E18) (H' := (mkH [])) (by kernel_rfl) ?_
         refine oK [0, 1, 5, 7, 72] (eE := [(0, .str a0), (1, .int .i64 a1), (5, .int .i64 (fW .i64 (fW .i64 (fW .i64 (a1 + x0_3) + 1) + x2_3))), (7, .int .i64 (fW .i64 (fW .i64 (fW .i64 (fW .i64 (a1 + x0_3) + 1) + x2_3) + 1))), (72, .bool false)]) (by kernel_rfl) ?_
         exact hj8 false
      ·let E19 : Env := [(54, .bool false), (0, .str a0), (1, .int .i64 a1), (5, .int .i64 (fW .i64 (fW .i64 (fW .i64 (a1 + x0_3) + 1) + x2_3))), (54, .bool z7)]
       refine oR 3 (p' := g43p14) (eE := E19) (H' := (mkH [])) (by kernel_rfl) ?_
       refine oK [1, 5] (eE := [(1, .int .i64 a1), (5, .int .i64 (fW .i64 (fW .i64 (fW .i64 (a1 + x0_3) + 1) + x2_3)))]) (by kernel_rfl) ?_
       exact hj9 (fW .i64 (fW .i64 (fW .i64 (a1 + x0_3) + 1) + x2_3))
    ·refine oS 43 (b := decide (fW .i64 (fW .i64 (fW .i64 (a1 + x0_3) + 1) + x2_3) < (a0.length : Int))) (by kernel_rfl) (fun hb => ?_) (fun hb => ?_)
     ·refine oR 2 (p' := (atN 7 (ctl1 g43p11))) (eE := ((45, .int .i64 (fW .i64 (fW .i64 (fW .i64 (a1 + x0_3) + 1) + x2_3))) :: (44, .str a0) :: (43, .bool true) :: E7)) (H' := (mkH [])) (by kernel_rfl) ?_
      refine oH (fun (x3_7 : Int) => (.int .u8 x3_7, (mkH []))) (atN 8 (ctl1 g43p11)) (fun x3_7 => ((46, .int .u8 x3_7) :: (45, .int .i64 (fW .i64 (fW .i64 (fW .i64 (a1 + x0_3) + 1) + x2_3))) :: (44, .str a0) :: (43, .bool true) :: E7)) (idxH (by kernel_rfl)) (fun _ => by kernel_rfl) (fun x3_7 hx3_7 => ?_)
      let E20 : Env := ((48, .bool (decide (x3_7 = 101))) :: (47, .bool (decide (x3_7 = 101))) :: (46, .int .u8 x3_7) :: (45, .int .i64 (fW .i64 (fW .i64 (fW .i64 (a1 + x0_3) + 1) + x2_3))) :: (44, .str a0) :: (43, .bool true) :: E7)
      refine oR 2 (p' := (atN 10 (ctl1 g43p11))) (eE := E20) (H' := (mkH [])) (by kernel_rfl) ?_
      refine oS 48 (b := decide (x3_7 = 101)) (by kernel_rfl) (fun hb => ?_) (fun hb => ?_)
      ·let E21 : Env := ((54, .bool true) :: (53, .bool true) :: (52, .tuple []) :: (51, .tuple []) :: (50, .tuple []) :: (49, .tuple []) :: (48, .bool true) :: E20)
       refine oR 7 (p' := g43p12) (eE := E21) (H' := (mkH [])) (by kernel_rfl) ?_
       refine oK [0, 1, 5, 54] (eE := [(0, .str a0), (1, .int .i64 a1), (5, .int .i64 (fW .i64 (fW .i64 (fW .i64 (a1 + x0_3) + 1) + x2_3))), (54, .bool true)]) (by kernel_rfl) ?_
       exact hj7 true
      ·refine oR 2 (p' := (atN 12 (ctl1 g43p11))) (eE := ((50, .int .i64 (fW .i64 (fW .i64 (fW .i64 (a1 + x0_3) + 1) + x2_3))) :: (49, .str a0) :: (48, .bool false) :: E20)) (H' := (mkH [])) (by kernel_rfl) ?_
       refine oH (fun (x3_12 : Int) => (.int .u8 x3_12, (mkH []))) (atN 13 (ctl1 g43p11)) (fun x3_12 => ((51, .int .u8 x3_12) :: (50, .int .i64 (fW .i64 (fW .i64 (fW .i64 (a1 + x0_3) + 1) + x2_3))) :: (49, .str a0) :: (48, .bool false) :: E20)) (idxH (by kernel_rfl)) (fun _ => by kernel_rfl) (fun x3_12 hx3_12 => ?_)
       let E22 : Env := ((54, .bool (decide (x3_12 = 69))) :: (53, .bool (decide (x3_12 = 69))) :: (52, .bool (decide (x3_12 = 69))) :: (51, .int .u8 x3_12) :: (50, .int .i64 (fW .i64 (fW .i64 (fW .i64 (a1 + x0_3) + 1) + x2_3))) :: (49, .str a0) :: (48, .bool false) :: E20)
       refine oR 4 (p' := g43p12) (eE := E22) (H' := (mkH [])) (by kernel_rfl) ?_
       refine oK [0, 1, 5, 54] (eE := [(0, .str a0), (1, .int .i64 a1), (5, .int .i64 (fW .i64 (fW .i64 (fW .i64 (a1 + x0_3) + 1) + x2_3))), (54, .bool (decide (x3_12 = 69)))]) (by kernel_rfl) ?_
       exact hj7 (decide (x3_12 = 69))
     ·let E23 : Env := ((54, .bool false) :: (53, .tuple []) :: (52, .tuple []) :: (51, .tuple []) :: (50, .tuple []) :: (49, .tuple []) :: (48, .tuple []) :: (47, .tuple []) :: (46, .tuple []) :: (45, .tuple []) :: (44, .tuple []) :: (43, .bool false) :: E7)
      refine oR 12 (p' := g43p12) (eE := E23) (H' := (mkH [])) (by kernel_rfl) ?_
      refine oK [0, 1, 5, 54] (eE := [(0, .str a0), (1, .int .i64 a1), (5, .int .i64 (fW .i64 (fW .i64 (fW .i64 (a1 + x0_3) + 1) + x2_3))), (54, .bool false)]) (by kernel_rfl) ?_
      exact hj7 false
 ·refine oS 17 (b := decide (fW .i64 (a1 + x0_3) = a1)) (by kernel_rfl) (fun hb => ?_) (fun hb => ?_)
  ·let E24 : Env := ((28, .bool true) :: (27, .tuple []) :: (26, .tuple []) :: (25, .tuple []) :: (24, .tuple []) :: (23, .bool true) :: (22, .bool true) :: (21, .tuple []) :: (20, .tuple []) :: (19, .tuple []) :: (18, .tuple []) :: (17, .bool true) :: E2)
   refine oR 12 (p' := g43p3) (eE := E24) (H' := (mkH [])) (by kernel_rfl) ?_
   refine oK [0, 1, 5, 28] (eE := [(0, .str a0), (1, .int .i64 a1), (5, .int .i64 (fW .i64 (a1 + x0_3))), (28, .bool true)]) (by kernel_rfl) ?_
   exact hj6 true
  ·let E25 : Env := ((23, .bool (decide ((a0.length : Int) ≤ fW .i64 (a1 + x0_3)))) :: (22, .bool (decide ((a0.length : Int) ≤ fW .i64 (a1 + x0_3)))) :: (21, .bool (decide ((a0.length : Int) ≤ fW .i64 (a1 + x0_3)))) :: (20, .int .i64 (a0.length : Int)) :: (19, .str a0) :: (18, .int .i64 (fW .i64 (a1 + x0_3))) :: (17, .bool false) :: E2)
   refine oR 6 (p' := (atN 10 (ctl1 g43p2))) (eE := E25) (H' := (mkH [])) (by kernel_rfl) ?_
   refine oS 23 (b := decide ((a0.length : Int) ≤ fW .i64 (a1 + x0_3))) (by kernel_rfl) (fun hb => ?_) (fun hb => ?_)
   ·let E26 : Env := ((28, .bool true) :: (27, .tuple []) :: (26, .tuple []) :: (25, .tuple []) :: (24, .tuple []) :: (23, .bool true) :: E25)
    refine oR 6 (p' := g43p3) (eE := E26) (H' := (mkH [])) (by kernel_rfl) ?_
    refine oK [0, 1, 5, 28] (eE := [(0, .str a0), (1, .int .i64 a1), (5, .int .i64 (fW .i64 (a1 + x0_3))), (28, .bool true)]) (by kernel_rfl) ?_
    exact hj6 true
   ·refine oR 2 (p' := (atN 12 (ctl1 g43p2))) (eE := ((25, .int .i64 (fW .i64 (a1 + x0_3))) :: (24, .str a0) :: (23, .bool false) :: E25)) (H' := (mkH [])) (by kernel_rfl) ?_
    refine oH (fun (x1_12 : Int) => (.int .u8 x1_12, (mkH []))) (atN 13 (ctl1 g43p2)) (fun x1_12 => ((26, .int .u8 x1_12) :: (25, .int .i64 (fW .i64 (a1 + x0_3))) :: (24, .str a0) :: (23, .bool false) :: E25)) (idxH (by kernel_rfl)) (fun _ => by kernel_rfl) (fun x1_12 hx1_12 => ?_)
    let E27 : Env := ((28, .bool (!decide (x1_12 = 46))) :: (27, .bool (!decide (x1_12 = 46))) :: (26, .int .u8 x1_12) :: (25, .int .i64 (fW .i64 (a1 + x0_3))) :: (24, .str a0) :: (23, .bool false) :: E25)
    refine oR 3 (p' := g43p3) (eE := E27) (H' := (mkH [])) (by kernel_rfl) ?_
    refine oK [0, 1, 5, 28] (eE := [(0, .str a0), (1, .int .i64 a1), (5, .int .i64 (fW .i64 (a1 + x0_3))), (28, .bool (!decide (x1_12 = 46)))]) (by kernel_rfl) ?_
    exact hj6 (!decide (x1_12 = 46))
end
end Go.Proofs.Ytokcjgjgojlhbaa.Am
set_option maxRecDepth 100000
set_option linter.unusedVariables false
set_option linter.unusedSimpArgs false
namespace Go.Proofs.Ytokcjgjgojlhbaa.Am
open Go
def frontN : List Nat → Nat × Nat
 | a :: b :: r => if dgN a < 10 then (if b = 35 then (if 2 ≤ dgN a then (2, dgN a) else (0, 10)) else if dgN b < 10 then (match r with | c :: _ => if c = 35 ∧ 2 ≤ 10 * dgN a + dgN b ∧ 10 * dgN a + dgN b ≤ 36 then (3, 10 * dgN a + dgN b) else (0, 10) | [] => (0, 10)) else (0, 10)) else (0, 10)
 | _ => (0, 10)
def wholeN (s : List Nat) : Nat := if 0 < (frontN s).1 ∧ 0 < runN (frontN s).2 false (s.drop (frontN s).1) then (frontN s).1 + runN (frontN s).2 false (s.drop (frontN s).1) else runN 10 false s
def sgn (s : List Nat) : Nat := match s with | c :: _ => if c = 43 ∨ c = 45 then 1 else 0 | [] => 0
def expN (s : List Nat) : Nat := match s with | e :: q => if e = 101 ∨ e = 69 then (if 0 < runN 10 false (q.drop (sgn q)) then 1 + sgn q + runN 10 false (q.drop (sgn q)) else 0) else 0 | [] => 0
def fracN (n : Nat) (s : List Nat) : Nat := match s with | c :: r => if c = 46 then (if runN 10 false r = 0 then 0 else n + 1 + runN 10 false r + expN (r.drop (runN 10 false r))) else 0 | [] => 0
def partN (s : List Nat) : Nat := if runN 10 false s = 0 then 0 else fracN (runN 10 false s) (s.drop (runN 10 false s))
theorem dg_35 : ¬ dgN 35 < 10 := by decide
theorem frontN_le (s : List Nat) : (frontN s).1 ≤ s.length ∧ (frontN s).2 ≤ 36 := by
 unfold frontN
 repeat' split
 all_goals simp only [List.length_cons]
 all_goals omega
theorem front_1 (k : Nat) {a : Nat} {r : List Nat} (ha : a < 256) : g57_l4 (k + 4) (a :: r) 1 (k + 4) 0 0 = some (if 2 ≤ dgN a ∧ dgN a ≤ 36 then (2, (dgN a : Int)) else (0, 10)) := by
 have n0 := nthX (s := a :: r) (x := 0) (i := 0) rfl rfl
 rw [g57_l4_s]
 simp only [n0, digit_at _ ha, Int.mul_zero, Option.bind_some, show decide ((0 : Int) < 1) = true from rfl, if_true, show fW .i64 0 = 0 from rfl, Int.zero_add, show fW .i64 1 = 1 from rfl]
 have hd := dg_le a
 simp (disch := omega) only [↓reduceIte, ↓jn, gsL]
 rw [g57_l4_s]
 simp only [show decide ((1 : Int) < 1) = false from rfl, Bool.false_eq_true, if_false]
 by_cases h1 : dgN a ≤ 36
 ·by_cases h2 : 2 ≤ dgN a
  ·simp (disch := omega) only [↓reduceIte, ↓jn, gsL, h1, h2, and_self]; rfl
  ·simp (disch := omega) only [↓reduceIte, ↓jn, gsL, h2, false_and]
 ·simp (disch := omega) only [↓reduceIte, ↓jn, gsL, h1, and_false]
theorem front_2 (k : Nat) {a b : Nat} {r : List Nat} (ha : a < 256) (hb : b < 256) (h10 : dgN a < 10) : g57_l4 (k + 4) (a :: b :: r) 2 (k + 4) 0 0 = some (if 2 ≤ 10 * dgN a + dgN b ∧ 10 * dgN a + dgN b ≤ 36 then (3, ((10 * dgN a + dgN b : Nat) : Int)) else (0, 10)) := by
 have n0 := nthX (s := a :: b :: r) (x := 0) (i := 0) rfl rfl
 have n1 := nthX (s := a :: b :: r) (x := 1) (i := 1) rfl rfl
 have hd := dg_le a
 have hd' := dg_le b
 rw [g57_l4_s]
 simp only [n0, digit_at _ ha, Int.mul_zero, Option.bind_some, show decide ((0 : Int) < 2) = true from rfl, if_true, show fW .i64 0 = 0 from rfl, Int.zero_add, show fW .i64 1 = 1 from rfl]
 simp (disch := omega) only [↓reduceIte, ↓jn, gsL]
 rw [g57_l4_s]
 simp only [n1, digit_at _ hb, Option.bind_some, show decide ((1 : Int) < 2) = true from rfl, Bool.false_eq_true, if_false, if_true, show fW .i64 (1 + 1) = 2 from rfl]
 simp (disch := omega) only [↓reduceIte, ↓jn, gsL]
 rw [g57_l4_s]
 have e : 10 * (dgN a : Int) + (dgN b : Int) = ((10 * dgN a + dgN b : Nat) : Int) := by omega
 rw [e]
 simp only [show decide ((2 : Int) < 2) = false from rfl, Bool.false_eq_true, if_false]
 generalize 10 * dgN a + dgN b = v
 by_cases h1 : v ≤ 36
 ·by_cases h2 : 2 ≤ v
  ·simp (disch := omega) only [↓reduceIte, ↓jn, gsL, h1, h2, and_self]; rfl
  ·simp (disch := omega) only [↓reduceIte, ↓jn, gsL, h2, false_and]
 ·simp (disch := omega) only [↓reduceIte, ↓jn, gsL, h1, and_false]
theorem front_at {k : Nat} {s : List Nat} (hk : s.length < k) (hk3 : 4 ≤ k) (hs : By s) (hl : Sz s) : g57 k s = some (((frontN s).1 : Int), ((frontN s).2 : Int)) := by
 unfold Sz at hl
 unfold g57
 rw [bare_at hk hs hl]
 obtain ⟨k', rfl⟩ : ∃ k', k = k' + 4 := ⟨k - 4, by omega⟩
 cases s with
 | nil => rfl
 | cons a r =>
  have a256 := hs.head
  have hs1 := hs.tail
  by_cases ha : dgN a < 10
  ·cases r with
   | nil =>
    have e3 : barN 10 [a] = 1 := by simp only [barN, ha, if_true]
    rw [e3]; rfl
   | cons b r =>
    have b256 := hs1.head
    have hs2 := hs1.tail
    by_cases hb : dgN b < 10
    ·have hb35 : ¬ b = 35 := by intro h; rw [h] at hb; exact dg_35 hb
     cases r with
     | nil =>
      have e3 : barN 10 [a, b] = 2 := by simp only [barN, ha, hb, if_true]
      rw [e3]
      simp only [frontN, ha, hb, hb35, if_true, if_false]; rfl
     | cons c r =>
      simp only [List.length_cons] at hl
      have n2 := nthX (s := a :: b :: c :: r) (x := ((2 : Nat) : Int)) (i := 2) rfl rfl
      by_cases hc : dgN c < 10
      ·have hc35 : ¬ c = 35 := by intro h; rw [h] at hc; exact dg_35 hc
       have e3 : barN 10 (a :: b :: c :: r) = barN 10 r + 3 := by simp only [barN, ha, hb, hc, if_true]
       rw [e3]
       simp only [frontN, ha, hb, hb35, hc35, if_true, if_false, false_and, Option.bind_some, jn]
       simp (disch := omega) only [↓reduceIte, ↓jn, gsL]; rfl
      ·have e3 : barN 10 (a :: b :: c :: r) = 2 := by simp only [barN, ha, hb, hc, if_true, if_false]
       rw [e3]
       have f2 := front_2 k' (r := c :: r) a256 b256 ha
       simp only [frontN, ha, hb, hb35, if_true, if_false, Option.bind_some, jn, n2, List.length_cons]
       simp (disch := omega) only [↓reduceIte, ↓jn, gsL]
       by_cases hc35 : c = 35
       ·simp (disch := omega) only [↓reduceIte, ↓jn, gsL]
        simp only [Bool.not_true, Bool.false_eq_true, if_false, hc35, true_and] at f2 ⊢
        exact f2.trans (by split <;> rfl)
       ·simp (disch := omega) only [↓reduceIte, ↓jn, gsL]
        simp only [Bool.not_false, if_true, hc35, false_and, if_false]; rfl
    ·simp only [List.length_cons] at hl
     have e3 : barN 10 (a :: b :: r) = 1 := by simp only [barN, ha, hb, if_true, if_false]
     have n1 := nthX (s := a :: b :: r) (x := ((1 : Nat) : Int)) (i := 1) rfl rfl
     have f1 := front_1 k' (r := b :: r) a256
     rw [e3]
     simp only [frontN, ha, hb, if_true, if_false, Option.bind_some, jn, n1, List.length_cons]
     simp (disch := omega) only [↓reduceIte, ↓jn, gsL]
     by_cases hb35 : b = 35
     ·simp (disch := omega) only [↓reduceIte, ↓jn, gsL]
      simp only [Bool.not_true, Bool.false_eq_true, if_false, hb35, if_true] at f1 ⊢
      refine f1.trans ?_
      by_cases h2 : 2 ≤ dgN a
      ·rw [if_pos ⟨h2, by omega⟩, if_pos h2]; rfl
      ·rw [if_neg (by omega), if_neg h2]; rfl
     ·simp (disch := omega) only [↓reduceIte, ↓jn, gsL]
      simp only [Bool.not_false, if_true, hb35, if_false]; rfl
  ·have : frontN (a :: r) = (0, 10) := by cases r <;> simp only [frontN, ha, if_false]
   have e3 : barN 10 (a :: r) = 0 := by simp only [barN, ha, if_false]
   rw [this, e3]
   rfl
theorem whole_at {k : Nat} {s : List Nat} (hk : s.length < k) (hk3 : 4 ≤ k) (hs : By s) (hl : Sz s) : g56 k s = some ((wholeN s : Nat) : Int) := by
 have hl' := hl
 unfold Sz at hl
 unfold g56 wholeN
 rw [front_at hk hk3 hs hl]
 obtain ⟨f1, f2⟩ := frontN_le s
 have r1 := run_at (k := k) (s := s.drop (frontN s).1) (by rw [List.length_drop]; omega) (hs.drop _) (by unfold Sz; rw [List.length_drop]; omega) (b := (frontN s).2) (by omega)
 have r2 := run_at hk hs hl' (b := 10) (by decide)
 have r2 : g64 k s 10 = _ := r2
 have l1 := runN_le (frontN s).2 false (s.drop (frontN s).1)
 rw [List.length_drop] at l1
 simp only [Option.bind_some, subFrom rfl f1, r1, r2]
 by_cases h1 : 0 < (frontN s).1
 ·by_cases h2 : 0 < runN (frontN s).2 false (s.drop (frontN s).1)
  ·simp (disch := omega) only [↓reduceIte, ↓jn, gsL, h1, h2, and_self]
   exact sn rfl
  ·simp (disch := omega) only [↓reduceIte, ↓jn, gsL, h1, h2, and_self, and_false]
 ·simp (disch := omega) only [↓reduceIte, ↓jn, gsL, h1, false_and]
theorem or32 {c : Nat} (h : c < 256) : decide (orI .u8 (c : Int) 32 = 101) = decide (c = 101 ∨ c = 69) := by
 have w := byteAll (f := fun c => decide (orI .u8 (c : Int) 32 = 101) == decide (c = 101 ∨ c = 69)) (by decide +kernel) h
 exact eq_of_beq w
theorem sgn_le (q : List Nat) : sgn q ≤ q.length := by
 unfold sgn; split
 ·split <;> simp
 ·simp
theorem part_at {k : Nat} {s : List Nat} (hk : s.length < k) (hs : By s) (hl : Sz s) : g55 k s = some ((partN s : Nat) : Int) := by
 have R : ∀ i, i ≤ s.length → g64 k (s.drop i) 10 = some ((runN 10 false (s.drop i) : Nat) : Int) := fun i hi =>
  run_at (k := k) (s := s.drop i) (by rw [List.length_drop]; omega) (hs.drop _) (by unfold Sz at *; rw [List.length_drop]; omega) (b := 10) (by decide)
 unfold Sz at hl
 unfold g55 partN
 have r0 := R 0 (by omega)
 rw [List.drop_zero] at r0
 have l0 := runN_le 10 false s
 refine bS (by (try simp (disch := omega) only [fwI]); exact r0) ?_
 generalize runN 10 false s = n at *
 clear r0
 by_cases h0 : n = 0
 ·subst h0; rfl
 rcases Nat.lt_or_ge n s.length with hn | hn
 ·obtain ⟨c, r, hc, hr, hm, hrl⟩ := dcons hn
  have nc := nthX rfl hc
  by_cases h46 : c = 46
  ·subst h46
   refine (jS (v := false) (fun j => by simp (disch := omega) only [↓reduceIte, ↓jn, gsL, nc])).trans ?_
   refine iF (by first | (simp (disch := omega) only [↓reduceIte, ↓jn, gsL]; done) | rfl) ?_
   have r1 := R (n + 1) (by omega)
   have l1 := runN_le 10 false r
   rw [hr] at r1
   have s1 := subFrom (s := s) (x := (n : Int) + 1) (i := n + 1) (by push_cast; rfl) (by omega)
   rw [hr] at s1
   have a1 : ∀ j, s.drop (n + 1 + j) = r.drop j := by intro j; rw [← List.drop_drop, hr]
   simp only [hc, fracN, h0, if_true, if_false]
   refine bS (by (try simp (disch := omega) only [fwI]); exact s1) ?_
   refine bS (by (try simp (disch := omega) only [fwI]); exact r1) ?_
   generalize runN 10 false r = m at *
   by_cases m0 : m = 0
   ·refine iT (by first | (simp (disch := omega) only [↓reduceIte, ↓jn, gsL, m0]; done) | rfl) ?_
    rw [if_pos m0]; rfl
   ·refine iF (by first | (simp (disch := omega) only [↓reduceIte, ↓jn, gsL]; done) | rfl) ?_
    rw [if_neg m0]
    rcases Nat.lt_or_ge (n + 1 + m) s.length with h1 | h1
    ·obtain ⟨e, q, he, hq, hem, hql⟩ := dcons h1
     have e256 := hs e hem
     have he' := he
     rw [a1] at he'
     have ne : nthS s ((n : Int) + 1 + m) = some (e : Int) := nthX (by omega) he
     have oe := or32 e256
     rw [he']
     by_cases hE : e = 101 ∨ e = 69
     ·rw [decide_eq_true hE] at oe
      simp only [expN, hE, if_true]
      refine (jS (v := true) (fun j => by simp (disch := omega) only [↓reduceIte, ↓jn, gsL, ne, oe])).trans ?_
      have out : g64 k (q.drop (sgn q)) 10 = some ((runN 10 false (q.drop (sgn q)) : Nat) : Int) ∧ subL s (some ((n : Int) + 1 + m + 1 + (sgn q : Nat))) none = some (q.drop (sgn q)) ∧ runN 10 false (q.drop (sgn q)) ≤ s.length := by
       have hs' := sgn_le q
       have d : s.drop (n + 1 + m + 1 + sgn q) = q.drop (sgn q) := by rw [← List.drop_drop, hq]
       have := R (n + 1 + m + 1 + sgn q) (by omega)
       rw [d] at this
       refine ⟨this, ?_, ?_⟩
       ·have := subFrom (s := s) (x := (n : Int) + 1 + m + 1 + (sgn q : Nat)) (i := n + 1 + m + 1 + sgn q) (by push_cast; rfl) (by omega)
        rw [d] at this
        exact this
       ·have := runN_le 10 false (q.drop (sgn q))
        rw [List.length_drop] at this
        omega
      obtain ⟨o1, o2, o3⟩ := out
      have fin : ∀ (x : Int) (z : Nat) (j : Unit → Option Int), subL s (some x) none = some (q.drop (sgn q)) → -1000000000000000000 ≤ x → x ≤ 1000000000000000000 → runN 10 false (q.drop (sgn q)) = z → ((subL s (some x) none).bind fun x5_2 => (g64 k x5_2 10).bind fun x5_3 => if decide (0 < x5_3) then some (fW .i64 (x + x5_3)) else j ()) = if 0 < z then some (x + z) else j () := by
       intro x z j hx b1 b2 hz
       refine bS (by (try simp (disch := omega) only [fwI]); exact hx) ?_
       refine bS (by (try simp (disch := omega) only [fwI]); exact o1) ?_
       rw [hz] at o3 ⊢
       by_cases h : 0 < z
       ·rw [if_pos h]; refine iT (by first | (simp (disch := omega) only [↓reduceIte, ↓jn, gsL]; done) | rfl) ?_; rw [fwI (by omega) (by omega)]
       ·rw [if_neg h]; refine iF (by first | (simp (disch := omega) only [↓reduceIte, ↓jn, gsL]; done) | rfl) ?_; rfl
      generalize hz : runN 10 false (q.drop (sgn q)) = z at *
      by_cases z0 : 0 < z
      ·refine jC fun j => ?_
       refine iT (by first | (simp (disch := omega) only [↓reduceIte, ↓jn, gsL]; done) | rfl) ?_
       rw [if_pos z0]
       cases q with
       | nil => simp only [sgn, List.drop_nil, runN] at hz; omega
       | cons d q =>
        simp only [List.length_cons] at hql
        have nd : nthS s ((n : Int) + 1 + m + 1) = some (d : Int) := nthX (i := n + 1 + m + 1) (by omega) hq
        by_cases hd : d = 43 ∨ d = 45
        ·have sg : sgn (d :: q) = 1 := by simp only [sgn, hd, if_true]
         rw [sg] at o2 fin ⊢
         have dd : (if decide ((d : Int) = 43) then true else decide ((d : Int) = 45)) = true := by rcases hd with rfl | rfl <;> rfl
         refine (jS (v := true) (fun j => ?_)).trans ?_
         ·rcases hd with rfl | rfl <;> simp (disch := omega) only [↓reduceIte, ↓jn, gsL, nd]
         ·refine (jS (v := (n : Int) + 1 + m + 1 + 1) (fun j => ?_)).trans ?_
          ·simp (disch := omega) only [↓reduceIte, ↓jn, gsL]
          ·refine (fin _ z j o2 (by omega) (by omega) rfl).trans ?_
           rw [if_pos z0]
           exact congrArg some (by omega)
        ·have sg : sgn (d :: q) = 0 := by simp only [sgn, hd, if_false]
         rw [sg] at o2 fin ⊢
         have d1 : ¬ (d : Int) = 43 := by omega
         have d2 : ¬ (d : Int) = 45 := by omega
         refine (jS (v := false) (fun j => ?_)).trans ?_
         ·simp (disch := omega) only [↓reduceIte, ↓jn, gsL, nd, d1, d2]
         ·refine (jS (v := (n : Int) + 1 + m + 1) (fun j => ?_)).trans ?_
          ·simp (disch := omega) only [↓reduceIte, ↓jn, gsL]
          ·refine (fin _ z j (by simpa using o2) (by omega) (by omega) rfl).trans ?_
           rw [if_pos z0]
           exact congrArg some (by omega)
      ·rw [if_neg z0]
       refine (jS (v := ()) (fun j => ?_)).trans ?_
       ·refine iT (by first | (simp (disch := omega) only [↓reduceIte, ↓jn, gsL]; done) | rfl) ?_
        cases q with
        | nil =>
         refine (jS (v := false) (fun j => ?_)).trans ?_
         ·simp only [List.length_nil] at hql
          simp (disch := omega) only [↓reduceIte, ↓jn, gsL]
         ·refine (jS (v := (n : Int) + 1 + m + 1) (fun j => ?_)).trans ?_
          ·simp (disch := omega) only [↓reduceIte, ↓jn, gsL]
          ·refine (fin _ z j (by simpa [sgn] using o2) (by omega) (by omega) rfl).trans ?_
           rw [if_neg z0]
        | cons d q =>
         simp only [List.length_cons] at hql
         have nd : nthS s ((n : Int) + 1 + m + 1) = some (d : Int) := nthX (i := n + 1 + m + 1) (by omega) hq
         by_cases hd : d = 43 ∨ d = 45
         ·have sg : sgn (d :: q) = 1 := by simp only [sgn, hd, if_true]
          rw [sg] at o2 fin
          refine (jS (v := true) (fun j => ?_)).trans ?_
          ·rcases hd with rfl | rfl <;> simp (disch := omega) only [↓reduceIte, ↓jn, gsL, nd]
          ·refine (jS (v := (n : Int) + 1 + m + 1 + 1) (fun j => ?_)).trans ?_
           ·simp (disch := omega) only [↓reduceIte, ↓jn, gsL]
           ·refine (fin _ z j o2 (by omega) (by omega) rfl).trans ?_
            rw [if_neg z0]
         ·have sg : sgn (d :: q) = 0 := by simp only [sgn, hd, if_false]
          rw [sg] at o2 fin
          have d1 : ¬ (d : Int) = 43 := by omega
          have d2 : ¬ (d : Int) = 45 := by omega
          refine (jS (v := false) (fun j => ?_)).trans ?_
          ·simp (disch := omega) only [↓reduceIte, ↓jn, gsL, nd, d1, d2]
          ·refine (jS (v := (n : Int) + 1 + m + 1) (fun j => ?_)).trans ?_
           ·simp (disch := omega) only [↓reduceIte, ↓jn, gsL]
           ·refine (fin _ z j (by simpa using o2) (by omega) (by omega) rfl).trans ?_
            rw [if_neg z0]
       ·simp (disch := omega) only [↓reduceIte, ↓jn, gsL]
        exact congrArg some (by omega)
     ·rw [decide_eq_false hE] at oe
      simp only [expN, hE, if_false]
      refine (jS (v := false) (fun j => by simp (disch := omega) only [↓reduceIte, ↓jn, gsL, ne, oe])).trans ?_
      simp (disch := omega) only [↓reduceIte, ↓jn, gsL]
      exact congrArg some (by omega)
    ·have he : r.drop m = [] := by rw [← a1]; exact dnil h1
     simp only [he, expN]
     refine (jS (v := false) (fun j => by simp (disch := omega) only [↓reduceIte, ↓jn, gsL])).trans ?_
     simp (disch := omega) only [↓reduceIte, ↓jn, gsL]
     exact congrArg some (by omega)
  ·refine (jS (v := true) (fun j => by simp (disch := omega) only [↓reduceIte, ↓jn, gsL, nc])).trans ?_
   refine iT (by first | (simp (disch := omega) only [↓reduceIte, ↓jn, gsL]; done) | rfl) ?_
   rw [hc]
   simp only [fracN, h0, h46, if_false]; rfl
 ·refine (jS (v := true) (fun j => by simp (disch := omega) only [↓reduceIte, ↓jn, gsL])).trans ?_
  refine iT (by first | (simp (disch := omega) only [↓reduceIte, ↓jn, gsL]; done) | rfl) ?_
  rw [dnil hn]
  simp only [fracN, h0, if_false]; rfl
end Go.Proofs.Ytokcjgjgojlhbaa.Am
set_option maxRecDepth 100000
set_option linter.unusedVariables false
namespace Go.Proofs.Ytokcjgjgojlhbaa.Am
noncomputable section
open Go
def X47 : Fx (Int × Int) := ⟨Try.prog, cx, Try.f47, fun r => .tuple [.int .i64 r.1, .int .i64 r.2], 0, fun _ => H0, cxTi, cxOrd⟩
def g47p0 : Pt := nav [0] (bodyAt Try.f47)
def g47p1 : Pt := nav [0, 0, 0, 0, 0] g47p0
def g47p2 : Pt := nav [0, 0] g47p1
def g47p4 : Pt := nav [2, 0] g47p2
def g47p6 : Pt := nav [0, 0] g47p4
def g47p8 : Pt := nav [2, 0] g47p6
def g47p9 : Pt := nav [0, 0] g47p8
def g47p11 : Pt := nav [2, 0] g47p9
def g47p12 : Pt := nav [0, 0] g47p11
def g47 (k : Nat) (a0 : Int) : Option (Int × Int) :=
 if (decide (a0 < 128)) then (some ((1 : Int), fW .i64 a0)) else (if (decide (shrC a0 5 = 6)) then (some ((2 : Int), fW .i64 (andI .u8 a0 31))) else (if (decide (shrC a0 4 = 14)) then (some ((3 : Int), fW .i64 (andI .u8 a0 15))) else (if (decide (shrC a0 3 = 30)) then (some ((4 : Int), fW .i64 (andI .u8 a0 7))) else (some ((0 : Int), (0 : Int))))))
theorem g47_ok (k : Nat) (a0 : Int) (r : (Int × Int)) (h : g47 k a0 = some r) : PureOk Try.prog 47 [.int .u8 a0] (.tuple [.int .i64 r.1, .int .i64 r.2]) := by
 refine pure_of X47 (fun _ => rfl) Try.func47 (by decide +kernel) (by kernel_rfl) (t := g47 k a0) ?_ h
 unfold g47
 refine oE (eE := [(0, .int .u8 a0)]) (by kernel_rfl) ?_
 let E1 : Env := [(4, .bool (decide (a0 < 128))), (6, .bool (decide (a0 < 128))), (5, .int .u8 a0), (3, .int .i64 0), (2, .int .i64 0), (0, .int .u8 a0)]
 refine oR 13 (p' := g47p2) (eE := E1) (H' := (mkH [])) (by kernel_rfl) ?_
 refine oS 4 (b := decide (a0 < 128)) (by kernel_rfl) (fun hb => ?_) (fun hb => ?_)
 ·let E2 : Env := ((3, .int .i64 (fW .i64 a0)) :: (2, .int .i64 1) :: (8, .int .i64 (fW .i64 a0)) :: (7, .int .u8 a0) :: (4, .bool true) :: E1)
  refine oR 9 (p' := .fin) (eE := E2) (H' := (mkH [])) (by kernel_rfl) ?_
  exact oT (r := ((1 : Int), fW .i64 a0)) (xs := [.int .i64 1, .int .i64 (fW .i64 a0)]) (v := .tuple [.int .i64 1, .int .i64 (fW .i64 a0)]) (by kernel_rfl) (by kernel_rfl) (by kernel_rfl) (.pures (by kernel_rfl)) (by kernel_rfl)
 ·let E3 : Env := ((9, .bool (decide (shrC a0 5 = 6))) :: (12, .bool (decide (shrC a0 5 = 6))) :: (11, .int .u8 (shrC a0 5)) :: (10, .int .u8 a0) :: (4, .bool false) :: E1)
  refine oR 8 (p' := g47p6) (eE := E3) (H' := (mkH [])) (by kernel_rfl) ?_
  refine oK [0, 9] (eE := [(0, .int .u8 a0), (9, .bool (decide (shrC a0 5 = 6)))]) (by kernel_rfl) ?_
  refine oS 9 (b := decide (shrC a0 5 = 6)) (by kernel_rfl) (fun hb => ?_) (fun hb => ?_)
  ·let E4 : Env := [(3, .int .i64 (fW .i64 (andI .u8 a0 31))), (2, .int .i64 2), (15, .int .i64 (fW .i64 (andI .u8 a0 31))), (14, .int .u8 (andI .u8 a0 31)), (13, .int .u8 a0), (9, .bool true), (0, .int .u8 a0), (9, .bool (decide (shrC a0 5 = 6)))]
   refine oR 10 (p' := .fin) (eE := E4) (H' := (mkH [])) (by kernel_rfl) ?_
   exact oT (r := ((2 : Int), fW .i64 (andI .u8 a0 31))) (xs := [.int .i64 2, .int .i64 (fW .i64 (andI .u8 a0 31))]) (v := .tuple [.int .i64 2, .int .i64 (fW .i64 (andI .u8 a0 31))]) (by kernel_rfl) (by kernel_rfl) (by kernel_rfl) (.pures (by kernel_rfl)) (by kernel_rfl)
  ·let E5 : Env := [(16, .bool (decide (shrC a0 4 = 14))), (19, .bool (decide (shrC a0 4 = 14))), (18, .int .u8 (shrC a0 4)), (17, .int .u8 a0), (9, .bool false), (0, .int .u8 a0), (9, .bool (decide (shrC a0 5 = 6)))]
   refine oR 8 (p' := g47p9) (eE := E5) (H' := (mkH [])) (by kernel_rfl) ?_
   refine oS 16 (b := decide (shrC a0 4 = 14)) (by kernel_rfl) (fun hb => ?_) (fun hb => ?_)
   ·let E6 : Env := ((3, .int .i64 (fW .i64 (andI .u8 a0 15))) :: (2, .int .i64 3) :: (22, .int .i64 (fW .i64 (andI .u8 a0 15))) :: (21, .int .u8 (andI .u8 a0 15)) :: (20, .int .u8 a0) :: (16, .bool true) :: E5)
    refine oR 10 (p' := .fin) (eE := E6) (H' := (mkH [])) (by kernel_rfl) ?_
    exact oT (r := ((3 : Int), fW .i64 (andI .u8 a0 15))) (xs := [.int .i64 3, .int .i64 (fW .i64 (andI .u8 a0 15))]) (v := .tuple [.int .i64 3, .int .i64 (fW .i64 (andI .u8 a0 15))]) (by kernel_rfl) (by kernel_rfl) (by kernel_rfl) (.pures (by kernel_rfl)) (by kernel_rfl)
   ·let E7 : Env := ((23, .bool (decide (shrC a0 3 = 30))) :: (26, .bool (decide (shrC a0 3 = 30))) :: (25, .int .u8 (shrC a0 3)) :: (24, .int .u8 a0) :: (16, .bool false) :: E5)
    refine oR 8 (p' := g47p12) (eE := E7) (H' := (mkH [])) (by kernel_rfl) ?_
    refine oK [0, 23] (eE := [(0, .int .u8 a0), (23, .bool (decide (shrC a0 3 = 30)))]) (by kernel_rfl) ?_
    refine oS 23 (b := decide (shrC a0 3 = 30)) (by kernel_rfl) (fun hb => ?_) (fun hb => ?_)
    ·let E8 : Env := [(3, .int .i64 (fW .i64 (andI .u8 a0 7))), (2, .int .i64 4), (29, .int .i64 (fW .i64 (andI .u8 a0 7))), (28, .int .u8 (andI .u8 a0 7)), (27, .int .u8 a0), (23, .bool true), (0, .int .u8 a0), (23, .bool (decide (shrC a0 3 = 30)))]
     refine oR 10 (p' := .fin) (eE := E8) (H' := (mkH [])) (by kernel_rfl) ?_
     exact oT (r := ((4 : Int), fW .i64 (andI .u8 a0 7))) (xs := [.int .i64 4, .int .i64 (fW .i64 (andI .u8 a0 7))]) (v := .tuple [.int .i64 4, .int .i64 (fW .i64 (andI .u8 a0 7))]) (by kernel_rfl) (by kernel_rfl) (by kernel_rfl) (.pures (by kernel_rfl)) (by kernel_rfl)
    ·let E9 : Env := [(3, .int .i64 0), (2, .int .i64 0), (23, .bool false), (0, .int .u8 a0), (23, .bool (decide (shrC a0 3 = 30)))]
     refine oR 8 (p' := .fin) (eE := E9) (H' := (mkH [])) (by kernel_rfl) ?_
     exact oT (r := ((0 : Int), (0 : Int))) (xs := [.int .i64 0, .int .i64 0]) (v := .tuple [.int .i64 0, .int .i64 0]) (by kernel_rfl) (by kernel_rfl) (by kernel_rfl) (.pures (by kernel_rfl)) (by kernel_rfl)
end
end Go.Proofs.Ytokcjgjgojlhbaa.Am
set_option maxRecDepth 100000
set_option linter.unusedVariables false
namespace Go.Proofs.Ytokcjgjgojlhbaa.Am
noncomputable section
open Go
def X48 : Fx Int := ⟨Try.prog, cx, Try.f48, fun r => .int .i64 r, 0, fun _ => H0, cxTi, cxOrd⟩
def g48c0 : List Int := [(0 : Int), (0 : Int), (128 : Int), (2048 : Int), (65536 : Int)]
def g48p0 : Pt := nav [0] (bodyAt Try.f48)
def g48p1 : Pt := nav [0, 0, 0] g48p0
def g48 (k : Nat) (a0 : Int) : Option Int :=
 (nthA g48c0 5 a0).bind fun x0_2 => some x0_2
theorem g48_ok (k : Nat) (a0 : Int) (r : Int) (h : g48 k a0 = some r) : PureOk Try.prog 48 [.int .i64 a0] (.int .i64 r) := by
 refine pure_of X48 (fun _ => rfl) Try.func48 (by decide +kernel) (by kernel_rfl) (t := g48 k a0) ?_ h
 unfold g48
 refine oE (eE := [(0, .int .i64 a0)]) (by kernel_rfl) ?_
 refine oR 8 (p' := (atN 2 (ctl1 g48p1))) (eE := [(4, .int .i64 a0), (3, .agg [.int .i64 0, .int .i64 0, .int .i64 128, .int .i64 2048, .int .i64 65536]), (2, .int .i64 0), (0, .int .i64 a0)]) (H' := (mkH [])) (by kernel_rfl) ?_
 refine oH (fun (x0_2 : Int) => (.int .i64 x0_2, (mkH []))) (atN 3 (ctl1 g48p1)) (fun x0_2 => [(5, .int .i64 x0_2), (4, .int .i64 a0), (3, .agg [.int .i64 0, .int .i64 0, .int .i64 128, .int .i64 2048, .int .i64 65536]), (2, .int .i64 0), (0, .int .i64 a0)]) (aidxH v3 g48c0 (by kernel_rfl)) (fun _ => by kernel_rfl) (fun x0_2 hx0_2 => ?_)
 let E1 : Env := [(2, .int .i64 x0_2), (5, .int .i64 x0_2), (4, .int .i64 a0), (3, .agg [.int .i64 0, .int .i64 0, .int .i64 128, .int .i64 2048, .int .i64 65536]), (2, .int .i64 0), (0, .int .i64 a0)]
 refine oR 3 (p' := .fin) (eE := E1) (H' := (mkH [])) (by kernel_rfl) ?_
 exact oT (r := x0_2) (xs := [.int .i64 x0_2]) (v := .int .i64 x0_2) (by kernel_rfl) (by kernel_rfl) (by kernel_rfl) (.pures (by kernel_rfl)) (by kernel_rfl)
end
end Go.Proofs.Ytokcjgjgojlhbaa.Am
set_option maxRecDepth 100000
set_option linter.unusedVariables false
namespace Go.Proofs.Ytokcjgjgojlhbaa.Am
noncomputable section
open Go
def X49 : Fx Bool := ⟨Try.prog, cx, Try.f49, fun r => .bool r, 0, fun _ => H0, cxTi, cxOrd⟩
def g49p0 : Pt := nav [0] (bodyAt Try.f49)
def g49p1 : Pt := nav [0, 0, 0] g49p0
def g49 (k : Nat) (a0 : Int) : Option Bool :=
 if (decide (0 ≤ a0)) then (if (decide (a0 ≤ 1114111)) then (some (!decide (shrC a0 11 = 27))) else (some false)) else (some false)
theorem g49_ok (k : Nat) (a0 : Int) (r : Bool) (h : g49 k a0 = some r) : PureOk Try.prog 49 [.int .i64 a0] (.bool r) := by
 refine pure_of X49 (fun _ => rfl) Try.func49 (by decide +kernel) (by kernel_rfl) (t := g49 k a0) ?_ h
 unfold g49
 refine oE (eE := [(0, .int .i64 a0)]) (by kernel_rfl) ?_
 let E1 : Env := [(5, .bool (decide (0 ≤ a0))), (4, .bool (decide (0 ≤ a0))), (3, .int .i64 a0), (2, .bool false), (0, .int .i64 a0)]
 refine oR 9 (p' := (atN 3 (ctl1 g49p1))) (eE := E1) (H' := (mkH [])) (by kernel_rfl) ?_
 refine oS 5 (b := decide (0 ≤ a0)) (by kernel_rfl) (fun hb => ?_) (fun hb => ?_)
 ·let E2 : Env := ((9, .bool (decide (a0 ≤ 1114111))) :: (8, .bool (decide (a0 ≤ 1114111))) :: (7, .bool (decide (a0 ≤ 1114111))) :: (6, .int .i64 a0) :: (5, .bool true) :: E1)
  refine oR 4 (p' := (atN 7 (ctl1 g49p1))) (eE := E2) (H' := (mkH [])) (by kernel_rfl) ?_
  refine oS 9 (b := decide (a0 ≤ 1114111)) (by kernel_rfl) (fun hb => ?_) (fun hb => ?_)
  ·let E3 : Env := ((2, .bool (!decide (shrC a0 11 = 27))) :: (13, .bool (!decide (shrC a0 11 = 27))) :: (12, .bool (!decide (shrC a0 11 = 27))) :: (11, .int .i64 (shrC a0 11)) :: (10, .int .i64 a0) :: (9, .bool true) :: E2)
   refine oR 7 (p' := .fin) (eE := E3) (H' := (mkH [])) (by kernel_rfl) ?_
   exact oT (r := (!decide (shrC a0 11 = 27))) (xs := [.bool (!decide (shrC a0 11 = 27))]) (v := .bool (!decide (shrC a0 11 = 27))) (by kernel_rfl) (by kernel_rfl) (by kernel_rfl) (.pures (by kernel_rfl)) (by kernel_rfl)
  ·let E4 : Env := ((2, .bool false) :: (13, .bool false) :: (12, .tuple []) :: (11, .tuple []) :: (10, .tuple []) :: (9, .bool false) :: E2)
   refine oR 7 (p' := .fin) (eE := E4) (H' := (mkH [])) (by kernel_rfl) ?_
   exact oT (r := false) (xs := [.bool false]) (v := .bool false) (by kernel_rfl) (by kernel_rfl) (by kernel_rfl) (.pures (by kernel_rfl)) (by kernel_rfl)
 ·let E5 : Env := ((2, .bool false) :: (13, .bool false) :: (12, .tuple []) :: (11, .tuple []) :: (10, .tuple []) :: (9, .bool false) :: (8, .bool false) :: (7, .tuple []) :: (6, .tuple []) :: (5, .bool false) :: E1)
  refine oR 11 (p' := .fin) (eE := E5) (H' := (mkH [])) (by kernel_rfl) ?_
  exact oT (r := false) (xs := [.bool false]) (v := .bool false) (by kernel_rfl) (by kernel_rfl) (by kernel_rfl) (.pures (by kernel_rfl)) (by kernel_rfl)
end
end Go.Proofs.Ytokcjgjgojlhbaa.Am
set_option maxRecDepth 100000
set_option linter.unusedVariables false
namespace Go.Proofs.Ytokcjgjgojlhbaa.Am
noncomputable section
open Go
def X31 : Fx (Int × Int) := ⟨Try.prog, cx, Try.f31, fun r => .tuple [.int .i64 r.1, .int .i64 r.2], 0, fun _ => H0, cxTi, cxOrd⟩
def g31p0 : Pt := nav [0] (bodyAt Try.f31)
def g31p1 : Pt := nav [0, 0, 0, 0] g31p0
def g31p2 : Pt := nav [0, 0] g31p1
def g31p4 : Pt := nav [2, 0, 0] g31p2
def g31p6 : Pt := nav [0, 0, 0, 0] g31p4
def g31p7 : Pt := nav [0, 0] g31p6
def g31p9 : Pt := nav [2, 0, 0, 0] g31p7
def g31p10 : Pt := nav [0, 0, 0, 0] g31p9
def g31p11 : Pt := nav [0, 0, 0] g31p10
def g31p12 : Pt := nav [0, 0] g31p11
def g31p13 : Pt := nav [1, 0, 0, 0, 0] g31p12
def g31p14 : Pt := nav [2, 0, 0, 0] g31p12
def g31p15 : Pt := nav [0, 0, 0, 0] g31p13
def g31p16 : Pt := nav [0, 0] g31p14
def g31p17 : Pt := nav [0, 0] g31p15
def g31p21 : Pt := nav [2, 0] g31p17
def g31p22 : Pt := nav [0, 0] g31p21
def g31_l5 (k : Nat)  (a0 : (List Nat)) (a1 : Int) (x0_3 : (Int × Int)) (n : Nat) : Int → Int → Option (Int × Int) :=
 Nat.rec (motive := fun _ => Int → Int → Option (Int × Int)) (fun _ _ => none) (fun _ ih => fun (y5_0 : Int) (y5_1 : Int) => if (decide (y5_1 < x0_3.1)) then ((nthS a0 (fW .i64 (a1 + y5_1))).bind fun x1_4 => if (!decide (shrC x1_4 6 = 2)) then (some (((-1) : Int), (1 : Int))) else (ih (orI .i64 (shlC .i64 y5_0 6) (fW .i64 (andI .u8 x1_4 63))) (fW .i64 (y5_1 + 1)))) else ((g48 k x0_3.1).bind fun x2_2 => jn (fun (z6 : Bool × Int) => if z6.1 then (some (((-1) : Int), (1 : Int))) else (some (z6.2, x0_3.1))) (fun j6 => if (decide (y5_0 < x2_2)) then (j6 (true, y5_0)) else ((g49 k y5_0).bind fun x2_6 => j6 (!x2_6, y5_0))))) n
theorem g31_l5_s (k : Nat)  (a0 : (List Nat)) (a1 : Int) (x0_3 : (Int × Int)) (n : Nat) (y5_0 : Int) (y5_1 : Int) : g31_l5 k a0 a1 x0_3 (n + 1) y5_0 y5_1 = (if (decide (y5_1 < x0_3.1)) then ((nthS a0 (fW .i64 (a1 + y5_1))).bind fun x1_4 => if (!decide (shrC x1_4 6 = 2)) then (some (((-1) : Int), (1 : Int))) else ((g31_l5 k a0 a1 x0_3 n) (orI .i64 (shlC .i64 y5_0 6) (fW .i64 (andI .u8 x1_4 63))) (fW .i64 (y5_1 + 1)))) else ((g48 k x0_3.1).bind fun x2_2 => jn (fun (z6 : Bool × Int) => if z6.1 then (some (((-1) : Int), (1 : Int))) else (some (z6.2, x0_3.1))) (fun j6 => if (decide (y5_0 < x2_2)) then (j6 (true, y5_0)) else ((g49 k y5_0).bind fun x2_6 => j6 (!x2_6, y5_0))))) := rfl
theorem g31_l5_ok (k : Nat)  (a0 : (List Nat)) (a1 : Int) (x0_3 : (Int × Int))  : ∀ (n : Nat) (y5_0 : Int) (y5_1 : Int), Ok X31 g31p10 [(0, .str a0), (1, .int .i64 a1), (6, .int .i64 x0_3.1), (7, .int .i64 y5_0), (8, .int .i64 y5_1)] (mkH []) (g31_l5 k a0 a1 x0_3 n y5_0 y5_1)
 | 0, _, _ => ok_none
 | n + 1, y5_0, y5_1 => by
  have ih := g31_l5_ok k a0 a1 x0_3 n
  rw [g31_l5_s]
  refine ok_ent (p' := nav [0] g31p10) (by kernel_rfl) ?_
  let E8 : Env := [(37, .bool (decide (y5_1 < x0_3.1))), (36, .int .i64 x0_3.1), (35, .int .i64 y5_1), (0, .str a0), (1, .int .i64 a1), (6, .int .i64 x0_3.1), (7, .int .i64 y5_0), (8, .int .i64 y5_1)]
  refine oR 7 (p' := g31p12) (eE := E8) (H' := (mkH [])) (by kernel_rfl) ?_
  refine oS 37 (b := decide (y5_1 < x0_3.1)) (by kernel_rfl) (fun hb => ?_) (fun hb => ?_)
  ·let E9 : Env := ((43, .int .i64 (fW .i64 (a1 + y5_1))) :: (42, .int .i64 y5_1) :: (41, .int .i64 a1) :: (40, .str a0) :: (37, .bool true) :: E8)
   refine oR 10 (p' := (atN 4 (ctl1 g31p13))) (eE := E9) (H' := (mkH [])) (by kernel_rfl) ?_
   refine oH (fun (x1_4 : Int) => (.int .u8 x1_4, (mkH []))) (atN 5 (ctl1 g31p13)) (fun x1_4 => ((44, .int .u8 x1_4) :: E9)) (idxH (by kernel_rfl)) (fun _ => by kernel_rfl) (fun x1_4 hx1_4 => ?_)
   refine oR 4 (p' := g31p15) (eE := ((9, .int .u8 x1_4) :: (44, .int .u8 x1_4) :: E9)) (H' := (mkH [])) (by kernel_rfl) ?_
   refine oK [0, 1, 6, 7, 8, 9] (eE := [(0, .str a0), (1, .int .i64 a1), (6, .int .i64 x0_3.1), (7, .int .i64 y5_0), (8, .int .i64 y5_1), (9, .int .u8 x1_4)]) (by kernel_rfl) ?_
   let E10 : Env := [(47, .bool (!decide (shrC x1_4 6 = 2))), (46, .int .u8 (shrC x1_4 6)), (45, .int .u8 x1_4), (0, .str a0), (1, .int .i64 a1), (6, .int .i64 x0_3.1), (7, .int .i64 y5_0), (8, .int .i64 y5_1), (9, .int .u8 x1_4)]
   refine oR 5 (p' := g31p17) (eE := E10) (H' := (mkH [])) (by kernel_rfl) ?_
   refine oS 47 (b := !decide (shrC x1_4 6 = 2)) (by kernel_rfl) (fun hb => ?_) (fun hb => ?_)
   ·refine oR 7 (p' := .fin) (eE := ((5, .int .i64 1) :: (4, .int .i64 (-1)) :: (47, .bool true) :: E10)) (H' := (mkH [])) (by kernel_rfl) ?_
    exact oT (r := (((-1) : Int), (1 : Int))) (xs := [.int .i64 (-1), .int .i64 1]) (v := .tuple [.int .i64 (-1), .int .i64 1]) (by kernel_rfl) (by kernel_rfl) (by kernel_rfl) (.pures (by kernel_rfl)) (by kernel_rfl)
   ·let E11 : Env := ((7, .int .i64 (orI .i64 (shlC .i64 y5_0 6) (fW .i64 (andI .u8 x1_4 63)))) :: (53, .int .i64 (orI .i64 (shlC .i64 y5_0 6) (fW .i64 (andI .u8 x1_4 63)))) :: (52, .int .i64 (fW .i64 (andI .u8 x1_4 63))) :: (51, .int .u8 (andI .u8 x1_4 63)) :: (50, .int .u8 x1_4) :: (49, .int .i64 (shlC .i64 y5_0 6)) :: (48, .int .i64 y5_0) :: (47, .bool false) :: E10)
    refine oR 11 (p' := g31p22) (eE := E11) (H' := (mkH [])) (by kernel_rfl) ?_
    refine oK [0, 1, 6, 7, 8] (eE := [(0, .str a0), (1, .int .i64 a1), (6, .int .i64 x0_3.1), (7, .int .i64 (orI .i64 (shlC .i64 y5_0 6) (fW .i64 (andI .u8 x1_4 63)))), (8, .int .i64 y5_1)]) (by kernel_rfl) ?_
    let E12 : Env := [(8, .int .i64 (fW .i64 (y5_1 + 1))), (39, .int .i64 (fW .i64 (y5_1 + 1))), (38, .int .i64 y5_1), (0, .str a0), (1, .int .i64 a1), (6, .int .i64 x0_3.1), (7, .int .i64 (orI .i64 (shlC .i64 y5_0 6) (fW .i64 (andI .u8 x1_4 63)))), (8, .int .i64 y5_1)]
    refine oR 5 (p' := g31p10) (eE := E12) (H' := (mkH [])) (by kernel_rfl) ?_
    refine oK [0, 1, 6, 7, 8] (eE := [(0, .str a0), (1, .int .i64 a1), (6, .int .i64 x0_3.1), (7, .int .i64 (orI .i64 (shlC .i64 y5_0 6) (fW .i64 (andI .u8 x1_4 63)))), (8, .int .i64 (fW .i64 (y5_1 + 1)))]) (by kernel_rfl) ?_
    exact ih (orI .i64 (shlC .i64 y5_0 6) (fW .i64 (andI .u8 x1_4 63))) (fW .i64 (y5_1 + 1))
  ·refine oR 7 (p' := (atN 2 (ctl1 g31p14))) (eE := ((55, .int .i64 x0_3.1) :: (54, .int .i64 y5_0) :: (37, .bool false) :: E8)) (H' := (mkH [])) (by kernel_rfl) ?_
   refine oC (fun (x2_2 : Int) => .int .i64 x2_2) (atN 3 (ctl1 g31p14)) (fun x2_2 => ((56, .int .i64 x2_2) :: (55, .int .i64 x0_3.1) :: (54, .int .i64 y5_0) :: (37, .bool false) :: E8)) (fi := 48) (args := [.int .i64 x0_3.1]) (by kernel_rfl) (by kernel_rfl) (fun _ => by kernel_rfl) (fun r h => g48_ok k x0_3.1 r h) (fun _ => by kernel_rfl) (fun x2_2 hx2_2 => ?_)
   let E13 : Env := ((58, .bool (decide (y5_0 < x2_2))) :: (57, .bool (decide (y5_0 < x2_2))) :: (56, .int .i64 x2_2) :: (55, .int .i64 x0_3.1) :: (54, .int .i64 y5_0) :: (37, .bool false) :: E8)
   refine oR 2 (p' := (atN 5 (ctl1 g31p14))) (eE := E13) (H' := (mkH [])) (by kernel_rfl) ?_
   refine oJ (f := fun (z6 : Bool × Int) => if z6.1 then (some (((-1) : Int), (1 : Int))) else (some (z6.2, x0_3.1))) g31p16 (fun (z6 : Bool × Int) => [(6, .int .i64 x0_3.1), (7, .int .i64 z6.2), (62, .bool z6.1)]) (fun (z6 : Bool × Int) => (mkH [])) (fun z6 => ?_) (fun j6 hj6 => ?_)
   ·refine oS 62 (b := z6.1) (by kernel_rfl) (fun hb => ?_) (fun hb => ?_)
    ·let E14 : Env := [(5, .int .i64 1), (4, .int .i64 (-1)), (62, .bool true), (6, .int .i64 x0_3.1), (7, .int .i64 z6.2), (62, .bool z6.1)]
     refine oR 7 (p' := .fin) (eE := E14) (H' := (mkH [])) (by kernel_rfl) ?_
     exact oT (r := (((-1) : Int), (1 : Int))) (xs := [.int .i64 (-1), .int .i64 1]) (v := .tuple [.int .i64 (-1), .int .i64 1]) (by kernel_rfl) (by kernel_rfl) (by kernel_rfl) (.pures (by kernel_rfl)) (by kernel_rfl)
    ·let E15 : Env := [(5, .int .i64 x0_3.1), (4, .int .i64 z6.2), (64, .int .i64 x0_3.1), (63, .int .i64 z6.2), (62, .bool false), (6, .int .i64 x0_3.1), (7, .int .i64 z6.2), (62, .bool z6.1)]
     refine oR 10 (p' := .fin) (eE := E15) (H' := (mkH [])) (by kernel_rfl) ?_
     exact oT (r := (z6.2, x0_3.1)) (xs := [.int .i64 z6.2, .int .i64 x0_3.1]) (v := .tuple [.int .i64 z6.2, .int .i64 x0_3.1]) (by kernel_rfl) (by kernel_rfl) (by kernel_rfl) (.pures (by kernel_rfl)) (by kernel_rfl)
   ·refine oS 58 (b := decide (y5_0 < x2_2)) (by kernel_rfl) (fun hb => ?_) (fun hb => ?_)
    ·let E16 : Env := ((62, .bool true) :: (61, .tuple []) :: (60, .tuple []) :: (59, .tuple []) :: (58, .bool true) :: E13)
     refine oR 5 (p' := g31p16) (eE := E16) (H' := (mkH [])) (by kernel_rfl) ?_
     refine oK [6, 7, 62] (eE := [(6, .int .i64 x0_3.1), (7, .int .i64 y5_0), (62, .bool true)]) (by kernel_rfl) ?_
     exact hj6 (true, y5_0)
    ·refine oR 1 (p' := (atN 6 (ctl1 g31p14))) (eE := ((59, .int .i64 y5_0) :: (58, .bool false) :: E13)) (H' := (mkH [])) (by kernel_rfl) ?_
     refine oC (fun (x2_6 : Bool) => .bool x2_6) (atN 7 (ctl1 g31p14)) (fun x2_6 => ((60, .bool x2_6) :: (59, .int .i64 y5_0) :: (58, .bool false) :: E13)) (fi := 49) (args := [.int .i64 y5_0]) (by kernel_rfl) (by kernel_rfl) (fun _ => by kernel_rfl) (fun r h => g49_ok k y5_0 r h) (fun _ => by kernel_rfl) (fun x2_6 hx2_6 => ?_)
     let E17 : Env := ((62, .bool (!x2_6)) :: (61, .bool (!x2_6)) :: (60, .bool x2_6) :: (59, .int .i64 y5_0) :: (58, .bool false) :: E13)
     refine oR 3 (p' := g31p16) (eE := E17) (H' := (mkH [])) (by kernel_rfl) ?_
     refine oK [6, 7, 62] (eE := [(6, .int .i64 x0_3.1), (7, .int .i64 y5_0), (62, .bool (!x2_6))]) (by kernel_rfl) ?_
     exact hj6 (!x2_6, y5_0)
def g31 (k : Nat) (a0 : (List Nat)) (a1 : Int) : Option (Int × Int) :=
 jn (fun (z3 : Bool) => if z3 then (some ((0 : Int), (0 : Int))) else ((nthS a0 a1).bind fun x0_2 => (g47 k x0_2).bind fun x0_3 => jn (fun (z4 : Bool) => if z4 then (some (((-1) : Int), (1 : Int))) else (g31_l5 k a0 a1 x0_3 k x0_3.2 1)) (fun j4 => if (decide (x0_3.1 = 0)) then (j4 true) else (j4 (decide (fW .i64 ((a0.length : Int) - a1) < x0_3.1)))))) (fun j3 => if (decide (a1 < 0)) then (j3 true) else (j3 (decide ((a0.length : Int) ≤ a1))))
theorem g31_ok (k : Nat) (a0 : (List Nat)) (a1 : Int) (r : (Int × Int)) (h : g31 k a0 a1 = some r) : PureOk Try.prog 31 [.str a0, .int .i64 a1] (.tuple [.int .i64 r.1, .int .i64 r.2]) := by
 refine pure_of X31 (fun _ => rfl) Try.func31 (by decide +kernel) (by kernel_rfl) (t := g31 k a0 a1) ?_ h
 unfold g31
 refine oE (eE := [(0, .str a0), (1, .int .i64 a1)]) (by kernel_rfl) ?_
 let E1 : Env := [(12, .bool (decide (a1 < 0))), (11, .bool (decide (a1 < 0))), (10, .int .i64 a1), (5, .int .i64 0), (4, .int .i64 0), (0, .str a0), (1, .int .i64 a1)]
 refine oR 11 (p' := (atN 3 (ctl1 g31p1))) (eE := E1) (H' := (mkH [])) (by kernel_rfl) ?_
 refine oJ (f := fun (z3 : Bool) => if z3 then (some ((0 : Int), (0 : Int))) else ((nthS a0 a1).bind fun x0_2 => (g47 k x0_2).bind fun x0_3 => jn (fun (z4 : Bool) => if z4 then (some (((-1) : Int), (1 : Int))) else (g31_l5 k a0 a1 x0_3 k x0_3.2 1)) (fun j4 => if (decide (x0_3.1 = 0)) then (j4 true) else (j4 (decide (fW .i64 ((a0.length : Int) - a1) < x0_3.1)))))) g31p2 (fun (z3 : Bool) => [(0, .str a0), (1, .int .i64 a1), (17, .bool z3)]) (fun (z3 : Bool) => (mkH [])) (fun z3 => ?_) (fun j3 hj3 => ?_)
 ·refine oS 17 (b := z3) (by kernel_rfl) (fun hb => ?_) (fun hb => ?_)
  ·let E2 : Env := [(5, .int .i64 0), (4, .int .i64 0), (17, .bool true), (0, .str a0), (1, .int .i64 a1), (17, .bool z3)]
   refine oR 7 (p' := .fin) (eE := E2) (H' := (mkH [])) (by kernel_rfl) ?_
   exact oT (r := ((0 : Int), (0 : Int))) (xs := [.int .i64 0, .int .i64 0]) (v := .tuple [.int .i64 0, .int .i64 0]) (by kernel_rfl) (by kernel_rfl) (by kernel_rfl) (.pures (by kernel_rfl)) (by kernel_rfl)
  ·let E3 : Env := [(20, .int .i64 a1), (19, .str a0), (17, .bool false), (0, .str a0), (1, .int .i64 a1), (17, .bool z3)]
   refine oR 6 (p' := (atN 2 (ctl1 g31p4))) (eE := E3) (H' := (mkH [])) (by kernel_rfl) ?_
   refine oH (fun (x0_2 : Int) => (.int .u8 x0_2, (mkH []))) (atN 3 (ctl1 g31p4)) (fun x0_2 => ((21, .int .u8 x0_2) :: E3)) (idxH (by kernel_rfl)) (fun _ => by kernel_rfl) (fun x0_2 hx0_2 => ?_)
   refine oC (fun (x0_3 : (Int × Int)) => .tuple [.int .i64 x0_3.1, .int .i64 x0_3.2]) (atN 4 (ctl1 g31p4)) (fun x0_3 => ((22, .tuple [.int .i64 x0_3.1, .int .i64 x0_3.2]) :: (21, .int .u8 x0_2) :: E3)) (fi := 47) (args := [.int .u8 x0_2]) (by kernel_rfl) (by kernel_rfl) (fun _ => by kernel_rfl) (fun r h => g47_ok k x0_2 r h) (fun _ => by kernel_rfl) (fun x0_3 hx0_3 => ?_)
   let E4 : Env := ((7, .int .i64 x0_3.2) :: (6, .int .i64 x0_3.1) :: (24, .int .i64 x0_3.2) :: (23, .int .i64 x0_3.1) :: (18, .tuple [.int .i64 x0_3.1, .int .i64 x0_3.2]) :: (22, .tuple [.int .i64 x0_3.1, .int .i64 x0_3.2]) :: (21, .int .u8 x0_2) :: E3)
   refine oR 8 (p' := g31p6) (eE := E4) (H' := (mkH [])) (by kernel_rfl) ?_
   refine oK [0, 1, 6, 7] (eE := [(0, .str a0), (1, .int .i64 a1), (6, .int .i64 x0_3.1), (7, .int .i64 x0_3.2)]) (by kernel_rfl) ?_
   let E5 : Env := [(27, .bool (decide (x0_3.1 = 0))), (26, .bool (decide (x0_3.1 = 0))), (25, .int .i64 x0_3.1), (0, .str a0), (1, .int .i64 a1), (6, .int .i64 x0_3.1), (7, .int .i64 x0_3.2)]
   refine oR 4 (p' := (atN 3 (ctl1 g31p6))) (eE := E5) (H' := (mkH [])) (by kernel_rfl) ?_
   refine oJ (f := fun (z4 : Bool) => if z4 then (some (((-1) : Int), (1 : Int))) else (g31_l5 k a0 a1 x0_3 k x0_3.2 1)) g31p7 (fun (z4 : Bool) => [(0, .str a0), (1, .int .i64 a1), (6, .int .i64 x0_3.1), (7, .int .i64 x0_3.2), (34, .bool z4)]) (fun (z4 : Bool) => (mkH [])) (fun z4 => ?_) (fun j4 hj4 => ?_)
   ·refine oS 34 (b := z4) (by kernel_rfl) (fun hb => ?_) (fun hb => ?_)
    ·let E6 : Env := [(5, .int .i64 1), (4, .int .i64 (-1)), (34, .bool true), (0, .str a0), (1, .int .i64 a1), (6, .int .i64 x0_3.1), (7, .int .i64 x0_3.2), (34, .bool z4)]
     refine oR 7 (p' := .fin) (eE := E6) (H' := (mkH [])) (by kernel_rfl) ?_
     exact oT (r := (((-1) : Int), (1 : Int))) (xs := [.int .i64 (-1), .int .i64 1]) (v := .tuple [.int .i64 (-1), .int .i64 1]) (by kernel_rfl) (by kernel_rfl) (by kernel_rfl) (.pures (by kernel_rfl)) (by kernel_rfl)
    ·let E7 : Env := [(8, .int .i64 1), (34, .bool false), (0, .str a0), (1, .int .i64 a1), (6, .int .i64 x0_3.1), (7, .int .i64 x0_3.2), (34, .bool z4)]
     refine oR 9 (p' := g31p10) (eE := E7) (H' := (mkH [])) (by kernel_rfl) ?_
     refine oK [0, 1, 6, 7, 8] (eE := [(0, .str a0), (1, .int .i64 a1), (6, .int .i64 x0_3.1), (7, .int .i64 x0_3.2), (8, .int .i64 1)]) (by kernel_rfl) ?_
     exact (g31_l5_ok k a0 a1 x0_3 k) x0_3.2 1
   ·refine oS 27 (b := decide (x0_3.1 = 0)) (by kernel_rfl) (fun hb => ?_) (fun hb => ?_)
    ·let E18 : Env := ((34, .bool true) :: (33, .tuple []) :: (32, .tuple []) :: (31, .tuple []) :: (30, .tuple []) :: (29, .tuple []) :: (28, .tuple []) :: (27, .bool true) :: E5)
     refine oR 8 (p' := g31p7) (eE := E18) (H' := (mkH [])) (by kernel_rfl) ?_
     refine oK [0, 1, 6, 7, 34] (eE := [(0, .str a0), (1, .int .i64 a1), (6, .int .i64 x0_3.1), (7, .int .i64 x0_3.2), (34, .bool true)]) (by kernel_rfl) ?_
     exact hj4 true
    ·let E19 : Env := ((34, .bool (decide (fW .i64 ((a0.length : Int) - a1) < x0_3.1))) :: (33, .bool (decide (fW .i64 ((a0.length : Int) - a1) < x0_3.1))) :: (32, .int .i64 (fW .i64 ((a0.length : Int) - a1))) :: (31, .int .i64 a1) :: (30, .int .i64 (a0.length : Int)) :: (29, .str a0) :: (28, .int .i64 x0_3.1) :: (27, .bool false) :: E5)
     refine oR 8 (p' := g31p7) (eE := E19) (H' := (mkH [])) (by kernel_rfl) ?_
     refine oK [0, 1, 6, 7, 34] (eE := [(0, .str a0), (1, .int .i64 a1), (6, .int .i64 x0_3.1), (7, .int .i64 x0_3.2), (34, .bool (decide (fW .i64 ((a0.length : Int) - a1) < x0_3.1)))]) (by kernel_rfl) ?_
     exact hj4 (decide (fW .i64 ((a0.length : Int) - a1) < x0_3.1))
 ·refine oS 12 (b := decide (a1 < 0)) (by kernel_rfl) (fun hb => ?_) (fun hb => ?_)
  ·let E20 : Env := ((17, .bool true) :: (16, .tuple []) :: (15, .tuple []) :: (14, .tuple []) :: (13, .tuple []) :: (12, .bool true) :: E1)
   refine oR 6 (p' := g31p2) (eE := E20) (H' := (mkH [])) (by kernel_rfl) ?_
   refine oK [0, 1, 17] (eE := [(0, .str a0), (1, .int .i64 a1), (17, .bool true)]) (by kernel_rfl) ?_
   exact hj3 true
  ·let E21 : Env := ((17, .bool (decide ((a0.length : Int) ≤ a1))) :: (16, .bool (decide ((a0.length : Int) ≤ a1))) :: (15, .int .i64 (a0.length : Int)) :: (14, .str a0) :: (13, .int .i64 a1) :: (12, .bool false) :: E1)
   refine oR 6 (p' := g31p2) (eE := E21) (H' := (mkH [])) (by kernel_rfl) ?_
   refine oK [0, 1, 17] (eE := [(0, .str a0), (1, .int .i64 a1), (17, .bool (decide ((a0.length : Int) ≤ a1)))]) (by kernel_rfl) ?_
   exact hj3 (decide ((a0.length : Int) ≤ a1))
end
end Go.Proofs.Ytokcjgjgojlhbaa.Am
set_option maxRecDepth 100000
set_option linter.unusedVariables false
namespace Go.Proofs.Ytokcjgjgojlhbaa.Am
noncomputable section
open Go
def X50 : Fx Bool := ⟨Try.prog, cx, Try.f50, fun r => .bool r, 0, fun _ => H0, cxTi, cxOrd⟩
def g50p0 : Pt := nav [0] (bodyAt Try.f50)
def g50p1 : Pt := nav [0, 0, 0] g50p0
def g50 (k : Nat) (a0 : Int) : Option Bool :=
 if (decide (0 ≤ a0)) then (if (decide (a0 ≤ 1114111)) then (if (decide (a0 < 55296)) then (some true) else (some (decide (57343 < a0)))) else (some false)) else (some false)
theorem g50_ok (k : Nat) (a0 : Int) (r : Bool) (h : g50 k a0 = some r) : PureOk Try.prog 50 [.int .i64 a0] (.bool r) := by
 refine pure_of X50 (fun _ => rfl) Try.func50 (by decide +kernel) (by kernel_rfl) (t := g50 k a0) ?_ h
 unfold g50
 refine oE (eE := [(0, .int .i64 a0)]) (by kernel_rfl) ?_
 let E1 : Env := [(5, .bool (decide (0 ≤ a0))), (4, .bool (decide (0 ≤ a0))), (3, .int .i64 a0), (2, .bool false), (0, .int .i64 a0)]
 refine oR 9 (p' := (atN 3 (ctl1 g50p1))) (eE := E1) (H' := (mkH [])) (by kernel_rfl) ?_
 refine oS 5 (b := decide (0 ≤ a0)) (by kernel_rfl) (fun hb => ?_) (fun hb => ?_)
 ·let E2 : Env := ((9, .bool (decide (a0 ≤ 1114111))) :: (8, .bool (decide (a0 ≤ 1114111))) :: (7, .bool (decide (a0 ≤ 1114111))) :: (6, .int .i64 a0) :: (5, .bool true) :: E1)
  refine oR 4 (p' := (atN 7 (ctl1 g50p1))) (eE := E2) (H' := (mkH [])) (by kernel_rfl) ?_
  refine oS 9 (b := decide (a0 ≤ 1114111)) (by kernel_rfl) (fun hb => ?_) (fun hb => ?_)
  ·refine oR 3 (p' := (atN 10 (ctl1 g50p1))) (eE := ((12, .bool (decide (a0 < 55296))) :: (11, .bool (decide (a0 < 55296))) :: (10, .int .i64 a0) :: (9, .bool true) :: E2)) (H' := (mkH [])) (by kernel_rfl) ?_
   refine oS 12 (b := decide (a0 < 55296)) (by kernel_rfl) (fun hb => ?_) (fun hb => ?_)
   ·let E3 : Env := ((2, .bool true) :: (16, .bool true) :: (15, .bool true) :: (14, .tuple []) :: (13, .tuple []) :: (12, .bool true) :: (12, .bool (decide (a0 < 55296))) :: (11, .bool (decide (a0 < 55296))) :: (10, .int .i64 a0) :: (9, .bool true) :: E2)
    refine oR 7 (p' := .fin) (eE := E3) (H' := (mkH [])) (by kernel_rfl) ?_
    exact oT (r := true) (xs := [.bool true]) (v := .bool true) (by kernel_rfl) (by kernel_rfl) (by kernel_rfl) (.pures (by kernel_rfl)) (by kernel_rfl)
   ·let E4 : Env := ((2, .bool (decide (57343 < a0))) :: (16, .bool (decide (57343 < a0))) :: (15, .bool (decide (57343 < a0))) :: (14, .bool (decide (57343 < a0))) :: (13, .int .i64 a0) :: (12, .bool false) :: (12, .bool (decide (a0 < 55296))) :: (11, .bool (decide (a0 < 55296))) :: (10, .int .i64 a0) :: (9, .bool true) :: E2)
    refine oR 7 (p' := .fin) (eE := E4) (H' := (mkH [])) (by kernel_rfl) ?_
    exact oT (r := (decide (57343 < a0))) (xs := [.bool (decide (57343 < a0))]) (v := .bool (decide (57343 < a0))) (by kernel_rfl) (by kernel_rfl) (by kernel_rfl) (.pures (by kernel_rfl)) (by kernel_rfl)
  ·let E5 : Env := ((2, .bool false) :: (16, .bool false) :: (15, .tuple []) :: (14, .tuple []) :: (13, .tuple []) :: (12, .tuple []) :: (11, .tuple []) :: (10, .tuple []) :: (9, .bool false) :: E2)
   refine oR 10 (p' := .fin) (eE := E5) (H' := (mkH [])) (by kernel_rfl) ?_
   exact oT (r := false) (xs := [.bool false]) (v := .bool false) (by kernel_rfl) (by kernel_rfl) (by kernel_rfl) (.pures (by kernel_rfl)) (by kernel_rfl)
 ·let E6 : Env := ((2, .bool false) :: (16, .bool false) :: (15, .tuple []) :: (14, .tuple []) :: (13, .tuple []) :: (12, .tuple []) :: (11, .tuple []) :: (10, .tuple []) :: (9, .bool false) :: (8, .bool false) :: (7, .tuple []) :: (6, .tuple []) :: (5, .bool false) :: E1)
  refine oR 14 (p' := .fin) (eE := E6) (H' := (mkH [])) (by kernel_rfl) ?_
  exact oT (r := false) (xs := [.bool false]) (v := .bool false) (by kernel_rfl) (by kernel_rfl) (by kernel_rfl) (.pures (by kernel_rfl)) (by kernel_rfl)
end
end Go.Proofs.Ytokcjgjgojlhbaa.Am
set_option maxRecDepth 100000
set_option linter.unusedVariables false
namespace Go.Proofs.Ytokcjgjgojlhbaa.Am
noncomputable section
open Go
def X32 : Fx (Int × Int) := ⟨Try.prog, cx, Try.f32, fun r => .tuple [.int .i64 r.1, .int .i64 r.2], 0, fun _ => H0, cxTi, cxOrd⟩
def g32p0 : Pt := nav [0] (bodyAt Try.f32)
def g32p1 : Pt := nav [0, 0, 0, 0] g32p0
def g32p2 : Pt := nav [0, 0] g32p1
def g32p4 : Pt := nav [2, 0, 0] g32p2
def g32p6 : Pt := nav [0, 0, 0] g32p4
def g32p7 : Pt := nav [0, 0, 0, 0, 0] g32p6
def g32p8 : Pt := nav [0, 0] g32p7
def g32p10 : Pt := nav [2, 0] g32p8
def g32p11 : Pt := nav [0, 0] g32p10
def g32p12 : Pt := nav [1] g32p11
def g32p13 : Pt := nav [2, 0] g32p11
def g32p14 : Pt := nav [0, 0, 0, 0] g32p12
def g32p15 : Pt := nav [0, 0] g32p13
def g32p16 : Pt := nav [0, 0] g32p14
def g32p18 : Pt := nav [2, 0] g32p15
def g32p20 : Pt := nav [2, 0, 0, 0] g32p16
def g32p21 : Pt := nav [0, 0] g32p18
def g32p22 : Pt := nav [0, 0, 0, 0] g32p20
def g32p25 : Pt := nav [0, 0, 0] g32p22
def g32p26 : Pt := nav [0, 0] g32p25
def g32p27 : Pt := nav [1, 0, 0, 0, 0, 0] g32p26
def g32p28 : Pt := nav [2, 0, 0, 0] g32p26
def g32p29 : Pt := nav [0, 0] g32p27
def g32p30 : Pt := nav [0, 0] g32p28
def g32p32 : Pt := nav [2, 0] g32p29
def g32p35 : Pt := nav [0, 0] g32p32
def g32_l9 (k : Nat)  (a0 : (List Nat)) (a1 : Int) (z6 : Int × Int × Int) (n : Nat) : Int → Int → Option (Int × Int) :=
 Nat.rec (motive := fun _ => Int → Int → Option (Int × Int)) (fun _ _ => none) (fun _ ih => fun (y9_0 : Int) (y9_1 : Int) => if (decide (y9_1 < z6.2.1)) then ((nthS a0 (fW .i64 (a1 + y9_1))).bind fun x1_4 => if (!decide (andI .u8 x1_4 192 = 128)) then (some (((-1) : Int), (1 : Int))) else ((nthS a0 (fW .i64 (a1 + y9_1))).bind fun x2_6 => ih (fW .i64 (fW .i64 (y9_0 * 64) + fW .i64 (andI .u8 x2_6 63))) (fW .i64 (y9_1 + 1)))) else (jn (fun (z10 : Bool × Int) => if z10.1 then (some (((-1) : Int), (1 : Int))) else (some (z10.2, z6.2.1))) (fun j10 => if (decide (y9_0 < z6.2.2)) then (j10 (true, y9_0)) else ((g50 k y9_0).bind fun x3_5 => j10 (!x3_5, y9_0))))) n
theorem g32_l9_s (k : Nat)  (a0 : (List Nat)) (a1 : Int) (z6 : Int × Int × Int) (n : Nat) (y9_0 : Int) (y9_1 : Int) : g32_l9 k a0 a1 z6 (n + 1) y9_0 y9_1 = (if (decide (y9_1 < z6.2.1)) then ((nthS a0 (fW .i64 (a1 + y9_1))).bind fun x1_4 => if (!decide (andI .u8 x1_4 192 = 128)) then (some (((-1) : Int), (1 : Int))) else ((nthS a0 (fW .i64 (a1 + y9_1))).bind fun x2_6 => (g32_l9 k a0 a1 z6 n) (fW .i64 (fW .i64 (y9_0 * 64) + fW .i64 (andI .u8 x2_6 63))) (fW .i64 (y9_1 + 1)))) else (jn (fun (z10 : Bool × Int) => if z10.1 then (some (((-1) : Int), (1 : Int))) else (some (z10.2, z6.2.1))) (fun j10 => if (decide (y9_0 < z6.2.2)) then (j10 (true, y9_0)) else ((g50 k y9_0).bind fun x3_5 => j10 (!x3_5, y9_0))))) := rfl
theorem g32_l9_ok (k : Nat)  (a0 : (List Nat)) (a1 : Int) (z6 : Int × Int × Int)  : ∀ (n : Nat) (y9_0 : Int) (y9_1 : Int), Ok X32 g32p22 [(0, .str a0), (1, .int .i64 a1), (6, .int .i64 y9_0), (7, .int .i64 z6.2.1), (8, .int .i64 z6.2.2), (9, .int .i64 y9_1)] (mkH []) (g32_l9 k a0 a1 z6 n y9_0 y9_1)
 | 0, _, _ => ok_none
 | n + 1, y9_0, y9_1 => by
  have ih := g32_l9_ok k a0 a1 z6 n
  rw [g32_l9_s]
  refine ok_ent (p' := nav [0] g32p22) (by kernel_rfl) ?_
  let E7 : Env := [(61, .bool (decide (y9_1 < z6.2.1))), (60, .int .i64 z6.2.1), (59, .int .i64 y9_1), (0, .str a0), (1, .int .i64 a1), (6, .int .i64 y9_0), (7, .int .i64 z6.2.1), (8, .int .i64 z6.2.2), (9, .int .i64 y9_1)]
  refine oR 7 (p' := g32p26) (eE := E7) (H' := (mkH [])) (by kernel_rfl) ?_
  refine oS 61 (b := decide (y9_1 < z6.2.1)) (by kernel_rfl) (fun hb => ?_) (fun hb => ?_)
  ·let E8 : Env := ((67, .int .i64 (fW .i64 (a1 + y9_1))) :: (66, .int .i64 y9_1) :: (65, .int .i64 a1) :: (64, .str a0) :: (61, .bool true) :: E7)
   refine oR 11 (p' := (atN 4 (ctl1 g32p27))) (eE := E8) (H' := (mkH [])) (by kernel_rfl) ?_
   refine oH (fun (x1_4 : Int) => (.int .u8 x1_4, (mkH []))) (atN 5 (ctl1 g32p27)) (fun x1_4 => ((68, .int .u8 x1_4) :: E8)) (idxH (by kernel_rfl)) (fun _ => by kernel_rfl) (fun x1_4 hx1_4 => ?_)
   refine oR 3 (p' := g32p29) (eE := ((70, .bool (!decide (andI .u8 x1_4 192 = 128))) :: (69, .int .u8 (andI .u8 x1_4 192)) :: (68, .int .u8 x1_4) :: E8)) (H' := (mkH [])) (by kernel_rfl) ?_
   refine oK [0, 1, 6, 7, 8, 9, 70] (eE := [(0, .str a0), (1, .int .i64 a1), (6, .int .i64 y9_0), (7, .int .i64 z6.2.1), (8, .int .i64 z6.2.2), (9, .int .i64 y9_1), (70, .bool (!decide (andI .u8 x1_4 192 = 128)))]) (by kernel_rfl) ?_
   refine oS 70 (b := !decide (andI .u8 x1_4 192 = 128)) (by kernel_rfl) (fun hb => ?_) (fun hb => ?_)
   ·let E9 : Env := [(5, .int .i64 1), (4, .int .i64 (-1)), (70, .bool true), (0, .str a0), (1, .int .i64 a1), (6, .int .i64 y9_0), (7, .int .i64 z6.2.1), (8, .int .i64 z6.2.2), (9, .int .i64 y9_1), (70, .bool (!decide (andI .u8 x1_4 192 = 128)))]
    refine oR 7 (p' := .fin) (eE := E9) (H' := (mkH [])) (by kernel_rfl) ?_
    exact oT (r := (((-1) : Int), (1 : Int))) (xs := [.int .i64 (-1), .int .i64 1]) (v := .tuple [.int .i64 (-1), .int .i64 1]) (by kernel_rfl) (by kernel_rfl) (by kernel_rfl) (.pures (by kernel_rfl)) (by kernel_rfl)
   ·let E10 : Env := [(76, .int .i64 (fW .i64 (a1 + y9_1))), (75, .int .i64 y9_1), (74, .int .i64 a1), (73, .str a0), (72, .int .i64 (fW .i64 (y9_0 * 64))), (71, .int .i64 y9_0), (70, .bool false), (0, .str a0), (1, .int .i64 a1), (6, .int .i64 y9_0), (7, .int .i64 z6.2.1), (8, .int .i64 z6.2.2), (9, .int .i64 y9_1), (70, .bool (!decide (andI .u8 x1_4 192 = 128)))]
    refine oR 9 (p' := (atN 6 (ctl1 g32p32))) (eE := E10) (H' := (mkH [])) (by kernel_rfl) ?_
    refine oH (fun (x2_6 : Int) => (.int .u8 x2_6, (mkH []))) (atN 7 (ctl1 g32p32)) (fun x2_6 => ((77, .int .u8 x2_6) :: E10)) (idxH (by kernel_rfl)) (fun _ => by kernel_rfl) (fun x2_6 hx2_6 => ?_)
    let E11 : Env := ((6, .int .i64 (fW .i64 (fW .i64 (y9_0 * 64) + fW .i64 (andI .u8 x2_6 63)))) :: (80, .int .i64 (fW .i64 (fW .i64 (y9_0 * 64) + fW .i64 (andI .u8 x2_6 63)))) :: (79, .int .i64 (fW .i64 (andI .u8 x2_6 63))) :: (78, .int .u8 (andI .u8 x2_6 63)) :: (77, .int .u8 x2_6) :: E10)
    refine oR 5 (p' := g32p35) (eE := E11) (H' := (mkH [])) (by kernel_rfl) ?_
    refine oK [0, 1, 6, 7, 8, 9] (eE := [(0, .str a0), (1, .int .i64 a1), (6, .int .i64 (fW .i64 (fW .i64 (y9_0 * 64) + fW .i64 (andI .u8 x2_6 63)))), (7, .int .i64 z6.2.1), (8, .int .i64 z6.2.2), (9, .int .i64 y9_1)]) (by kernel_rfl) ?_
    let E12 : Env := [(9, .int .i64 (fW .i64 (y9_1 + 1))), (63, .int .i64 (fW .i64 (y9_1 + 1))), (62, .int .i64 y9_1), (0, .str a0), (1, .int .i64 a1), (6, .int .i64 (fW .i64 (fW .i64 (y9_0 * 64) + fW .i64 (andI .u8 x2_6 63)))), (7, .int .i64 z6.2.1), (8, .int .i64 z6.2.2), (9, .int .i64 y9_1)]
    refine oR 5 (p' := g32p22) (eE := E12) (H' := (mkH [])) (by kernel_rfl) ?_
    refine oK [0, 1, 6, 7, 8, 9] (eE := [(0, .str a0), (1, .int .i64 a1), (6, .int .i64 (fW .i64 (fW .i64 (y9_0 * 64) + fW .i64 (andI .u8 x2_6 63)))), (7, .int .i64 z6.2.1), (8, .int .i64 z6.2.2), (9, .int .i64 (fW .i64 (y9_1 + 1)))]) (by kernel_rfl) ?_
    exact ih (fW .i64 (fW .i64 (y9_0 * 64) + fW .i64 (andI .u8 x2_6 63))) (fW .i64 (y9_1 + 1))
  ·let E13 : Env := ((84, .bool (decide (y9_0 < z6.2.2))) :: (83, .bool (decide (y9_0 < z6.2.2))) :: (82, .int .i64 z6.2.2) :: (81, .int .i64 y9_0) :: (61, .bool false) :: E7)
   refine oR 9 (p' := (atN 4 (ctl1 g32p28))) (eE := E13) (H' := (mkH [])) (by kernel_rfl) ?_
   refine oJ (f := fun (z10 : Bool × Int) => if z10.1 then (some (((-1) : Int), (1 : Int))) else (some (z10.2, z6.2.1))) g32p30 (fun (z10 : Bool × Int) => [(6, .int .i64 z10.2), (7, .int .i64 z6.2.1), (88, .bool z10.1)]) (fun (z10 : Bool × Int) => (mkH [])) (fun z10 => ?_) (fun j10 hj10 => ?_)
   ·refine oS 88 (b := z10.1) (by kernel_rfl) (fun hb => ?_) (fun hb => ?_)
    ·let E14 : Env := [(5, .int .i64 1), (4, .int .i64 (-1)), (88, .bool true), (6, .int .i64 z10.2), (7, .int .i64 z6.2.1), (88, .bool z10.1)]
     refine oR 7 (p' := .fin) (eE := E14) (H' := (mkH [])) (by kernel_rfl) ?_
     exact oT (r := (((-1) : Int), (1 : Int))) (xs := [.int .i64 (-1), .int .i64 1]) (v := .tuple [.int .i64 (-1), .int .i64 1]) (by kernel_rfl) (by kernel_rfl) (by kernel_rfl) (.pures (by kernel_rfl)) (by kernel_rfl)
    ·let E15 : Env := [(5, .int .i64 z6.2.1), (4, .int .i64 z10.2), (90, .int .i64 z6.2.1), (89, .int .i64 z10.2), (88, .bool false), (6, .int .i64 z10.2), (7, .int .i64 z6.2.1), (88, .bool z10.1)]
     refine oR 10 (p' := .fin) (eE := E15) (H' := (mkH [])) (by kernel_rfl) ?_
     exact oT (r := (z10.2, z6.2.1)) (xs := [.int .i64 z10.2, .int .i64 z6.2.1]) (v := .tuple [.int .i64 z10.2, .int .i64 z6.2.1]) (by kernel_rfl) (by kernel_rfl) (by kernel_rfl) (.pures (by kernel_rfl)) (by kernel_rfl)
   ·refine oS 84 (b := decide (y9_0 < z6.2.2)) (by kernel_rfl) (fun hb => ?_) (fun hb => ?_)
    ·let E16 : Env := ((88, .bool true) :: (87, .tuple []) :: (86, .tuple []) :: (85, .tuple []) :: (84, .bool true) :: E13)
     refine oR 5 (p' := g32p30) (eE := E16) (H' := (mkH [])) (by kernel_rfl) ?_
     refine oK [6, 7, 88] (eE := [(6, .int .i64 y9_0), (7, .int .i64 z6.2.1), (88, .bool true)]) (by kernel_rfl) ?_
     exact hj10 (true, y9_0)
    ·refine oR 1 (p' := (atN 5 (ctl1 g32p28))) (eE := ((85, .int .i64 y9_0) :: (84, .bool false) :: E13)) (H' := (mkH [])) (by kernel_rfl) ?_
     refine oC (fun (x3_5 : Bool) => .bool x3_5) (atN 6 (ctl1 g32p28)) (fun x3_5 => ((86, .bool x3_5) :: (85, .int .i64 y9_0) :: (84, .bool false) :: E13)) (fi := 50) (args := [.int .i64 y9_0]) (by kernel_rfl) (by kernel_rfl) (fun _ => by kernel_rfl) (fun r h => g50_ok k y9_0 r h) (fun _ => by kernel_rfl) (fun x3_5 hx3_5 => ?_)
     let E17 : Env := ((88, .bool (!x3_5)) :: (87, .bool (!x3_5)) :: (86, .bool x3_5) :: (85, .int .i64 y9_0) :: (84, .bool false) :: E13)
     refine oR 3 (p' := g32p30) (eE := E17) (H' := (mkH [])) (by kernel_rfl) ?_
     refine oK [6, 7, 88] (eE := [(6, .int .i64 y9_0), (7, .int .i64 z6.2.1), (88, .bool (!x3_5))]) (by kernel_rfl) ?_
     exact hj10 (!x3_5, y9_0)
def g32 (k : Nat) (a0 : (List Nat)) (a1 : Int) : Option (Int × Int) :=
 jn (fun (z4 : Bool) => if z4 then (some ((0 : Int), (0 : Int))) else ((nthS a0 a1).bind fun x0_2 => if (decide (fW .i64 x0_2 < 128)) then (some (fW .i64 x0_2, (1 : Int))) else (jn (fun (z5 : Bool) => jn (fun (z6 : Int × Int × Int) => if (decide (fW .i64 ((a0.length : Int) - a1) < z6.2.1)) then (some (((-1) : Int), (1 : Int))) else (g32_l9 k a0 a1 z6 k z6.1 1)) (fun j6 => if z5 then (j6 (andI .i64 (fW .i64 x0_2) 31, 2, 128)) else (jn (fun (z7 : Bool) => if z7 then (j6 (andI .i64 (fW .i64 x0_2) 15, 3, 2048)) else (jn (fun (z8 : Bool) => if z8 then (j6 (andI .i64 (fW .i64 x0_2) 7, 4, 65536)) else (some (((-1) : Int), (1 : Int)))) (fun j8 => if (decide (240 ≤ fW .i64 x0_2)) then (j8 (decide (fW .i64 x0_2 < 248))) else (j8 false)))) (fun j7 => if (decide (224 ≤ fW .i64 x0_2)) then (j7 (decide (fW .i64 x0_2 < 240))) else (j7 false))))) (fun j5 => if (decide (192 ≤ fW .i64 x0_2)) then (j5 (decide (fW .i64 x0_2 < 224))) else (j5 false))))) (fun j4 => if (decide (a1 < 0)) then (j4 true) else (j4 (decide ((a0.length : Int) ≤ a1))))
theorem g32_ok (k : Nat) (a0 : (List Nat)) (a1 : Int) (r : (Int × Int)) (h : g32 k a0 a1 = some r) : PureOk Try.prog 32 [.str a0, .int .i64 a1] (.tuple [.int .i64 r.1, .int .i64 r.2]) := by
 refine pure_of X32 (fun _ => rfl) Try.func32 (by decide +kernel) (by kernel_rfl) (t := g32 k a0 a1) ?_ h
 unfold g32
 refine oE (eE := [(0, .str a0), (1, .int .i64 a1)]) (by kernel_rfl) ?_
 let E1 : Env := [(12, .bool (decide (a1 < 0))), (11, .bool (decide (a1 < 0))), (10, .int .i64 a1), (5, .int .i64 0), (4, .int .i64 0), (0, .str a0), (1, .int .i64 a1)]
 refine oR 11 (p' := (atN 3 (ctl1 g32p1))) (eE := E1) (H' := (mkH [])) (by kernel_rfl) ?_
 refine oJ (f := fun (z4 : Bool) => if z4 then (some ((0 : Int), (0 : Int))) else ((nthS a0 a1).bind fun x0_2 => if (decide (fW .i64 x0_2 < 128)) then (some (fW .i64 x0_2, (1 : Int))) else (jn (fun (z5 : Bool) => jn (fun (z6 : Int × Int × Int) => if (decide (fW .i64 ((a0.length : Int) - a1) < z6.2.1)) then (some (((-1) : Int), (1 : Int))) else (g32_l9 k a0 a1 z6 k z6.1 1)) (fun j6 => if z5 then (j6 (andI .i64 (fW .i64 x0_2) 31, 2, 128)) else (jn (fun (z7 : Bool) => if z7 then (j6 (andI .i64 (fW .i64 x0_2) 15, 3, 2048)) else (jn (fun (z8 : Bool) => if z8 then (j6 (andI .i64 (fW .i64 x0_2) 7, 4, 65536)) else (some (((-1) : Int), (1 : Int)))) (fun j8 => if (decide (240 ≤ fW .i64 x0_2)) then (j8 (decide (fW .i64 x0_2 < 248))) else (j8 false)))) (fun j7 => if (decide (224 ≤ fW .i64 x0_2)) then (j7 (decide (fW .i64 x0_2 < 240))) else (j7 false))))) (fun j5 => if (decide (192 ≤ fW .i64 x0_2)) then (j5 (decide (fW .i64 x0_2 < 224))) else (j5 false))))) g32p2 (fun (z4 : Bool) => [(0, .str a0), (1, .int .i64 a1), (17, .bool z4)]) (fun (z4 : Bool) => (mkH [])) (fun z4 => ?_) (fun j4 hj4 => ?_)
 ·refine oS 17 (b := z4) (by kernel_rfl) (fun hb => ?_) (fun hb => ?_)
  ·let E2 : Env := [(5, .int .i64 0), (4, .int .i64 0), (17, .bool true), (0, .str a0), (1, .int .i64 a1), (17, .bool z4)]
   refine oR 7 (p' := .fin) (eE := E2) (H' := (mkH [])) (by kernel_rfl) ?_
   exact oT (r := ((0 : Int), (0 : Int))) (xs := [.int .i64 0, .int .i64 0]) (v := .tuple [.int .i64 0, .int .i64 0]) (by kernel_rfl) (by kernel_rfl) (by kernel_rfl) (.pures (by kernel_rfl)) (by kernel_rfl)
  ·let E3 : Env := [(19, .int .i64 a1), (18, .str a0), (17, .bool false), (0, .str a0), (1, .int .i64 a1), (17, .bool z4)]
   refine oR 6 (p' := (atN 2 (ctl1 g32p4))) (eE := E3) (H' := (mkH [])) (by kernel_rfl) ?_
   refine oH (fun (x0_2 : Int) => (.int .u8 x0_2, (mkH []))) (atN 3 (ctl1 g32p4)) (fun x0_2 => ((20, .int .u8 x0_2) :: E3)) (idxH (by kernel_rfl)) (fun _ => by kernel_rfl) (fun x0_2 hx0_2 => ?_)
   let E4 : Env := ((8, .int .i64 0) :: (7, .int .i64 1) :: (6, .int .i64 (fW .i64 x0_2)) :: (21, .int .i64 (fW .i64 x0_2)) :: (20, .int .u8 x0_2) :: E3)
   refine oR 11 (p' := g32p7) (eE := E4) (H' := (mkH [])) (by kernel_rfl) ?_
   refine oK [0, 1, 6] (eE := [(0, .str a0), (1, .int .i64 a1), (6, .int .i64 (fW .i64 x0_2))]) (by kernel_rfl) ?_
   let E5 : Env := [(22, .bool (decide (fW .i64 x0_2 < 128))), (24, .bool (decide (fW .i64 x0_2 < 128))), (23, .int .i64 (fW .i64 x0_2)), (0, .str a0), (1, .int .i64 a1), (6, .int .i64 (fW .i64 x0_2))]
   refine oR 5 (p' := g32p8) (eE := E5) (H' := (mkH [])) (by kernel_rfl) ?_
   refine oS 22 (b := decide (fW .i64 x0_2 < 128)) (by kernel_rfl) (fun hb => ?_) (fun hb => ?_)
   ·refine oR 8 (p' := .fin) (eE := ((5, .int .i64 1) :: (4, .int .i64 (fW .i64 x0_2)) :: (25, .int .i64 (fW .i64 x0_2)) :: (22, .bool true) :: E5)) (H' := (mkH [])) (by kernel_rfl) ?_
    exact oT (r := (fW .i64 x0_2, (1 : Int))) (xs := [.int .i64 (fW .i64 x0_2), .int .i64 1]) (v := .tuple [.int .i64 (fW .i64 x0_2), .int .i64 1]) (by kernel_rfl) (by kernel_rfl) (by kernel_rfl) (.pures (by kernel_rfl)) (by kernel_rfl)
   ·refine oR 6 (p' := (atN 3 (ctl1 g32p10))) (eE := ((29, .bool (decide (192 ≤ fW .i64 x0_2))) :: (28, .bool (decide (192 ≤ fW .i64 x0_2))) :: (27, .int .i64 (fW .i64 x0_2)) :: (22, .bool false) :: E5)) (H' := (mkH [])) (by kernel_rfl) ?_
    refine oJ (f := fun (z5 : Bool) => jn (fun (z6 : Int × Int × Int) => if (decide (fW .i64 ((a0.length : Int) - a1) < z6.2.1)) then (some (((-1) : Int), (1 : Int))) else (g32_l9 k a0 a1 z6 k z6.1 1)) (fun j6 => if z5 then (j6 (andI .i64 (fW .i64 x0_2) 31, 2, 128)) else (jn (fun (z7 : Bool) => if z7 then (j6 (andI .i64 (fW .i64 x0_2) 15, 3, 2048)) else (jn (fun (z8 : Bool) => if z8 then (j6 (andI .i64 (fW .i64 x0_2) 7, 4, 65536)) else (some (((-1) : Int), (1 : Int)))) (fun j8 => if (decide (240 ≤ fW .i64 x0_2)) then (j8 (decide (fW .i64 x0_2 < 248))) else (j8 false)))) (fun j7 => if (decide (224 ≤ fW .i64 x0_2)) then (j7 (decide (fW .i64 x0_2 < 240))) else (j7 false))))) g32p11 (fun (z5 : Bool) => [(0, .str a0), (1, .int .i64 a1), (6, .int .i64 (fW .i64 x0_2)), (26, .bool z5)]) (fun (z5 : Bool) => (mkH [])) (fun z5 => ?_) (fun j5 hj5 => ?_)
    ·refine oJ (f := fun (z6 : Int × Int × Int) => if (decide (fW .i64 ((a0.length : Int) - a1) < z6.2.1)) then (some (((-1) : Int), (1 : Int))) else (g32_l9 k a0 a1 z6 k z6.1 1)) g32p14 (fun (z6 : Int × Int × Int) => [(0, .str a0), (1, .int .i64 a1), (6, .int .i64 z6.1), (7, .int .i64 z6.2.1), (8, .int .i64 z6.2.2)]) (fun (z6 : Int × Int × Int) => (mkH [])) (fun z6 => ?_) (fun j6 hj6 => ?_)
     ·let E6 : Env := [(58, .bool (decide (fW .i64 ((a0.length : Int) - a1) < z6.2.1))), (57, .int .i64 z6.2.1), (56, .int .i64 (fW .i64 ((a0.length : Int) - a1))), (55, .int .i64 a1), (54, .int .i64 (a0.length : Int)), (53, .str a0), (0, .str a0), (1, .int .i64 a1), (6, .int .i64 z6.1), (7, .int .i64 z6.2.1), (8, .int .i64 z6.2.2)]
      refine oR 8 (p' := g32p16) (eE := E6) (H' := (mkH [])) (by kernel_rfl) ?_
      refine oS 58 (b := decide (fW .i64 ((a0.length : Int) - a1) < z6.2.1)) (by kernel_rfl) (fun hb => ?_) (fun hb => ?_)
      ·refine oR 7 (p' := .fin) (eE := ((5, .int .i64 1) :: (4, .int .i64 (-1)) :: (58, .bool true) :: E6)) (H' := (mkH [])) (by kernel_rfl) ?_
       exact oT (r := (((-1) : Int), (1 : Int))) (xs := [.int .i64 (-1), .int .i64 1]) (v := .tuple [.int .i64 (-1), .int .i64 1]) (by kernel_rfl) (by kernel_rfl) (by kernel_rfl) (.pures (by kernel_rfl)) (by kernel_rfl)
      ·refine oR 9 (p' := g32p22) (eE := ((9, .int .i64 1) :: (58, .bool false) :: E6)) (H' := (mkH [])) (by kernel_rfl) ?_
       refine oK [0, 1, 6, 7, 8, 9] (eE := [(0, .str a0), (1, .int .i64 a1), (6, .int .i64 z6.1), (7, .int .i64 z6.2.1), (8, .int .i64 z6.2.2), (9, .int .i64 1)]) (by kernel_rfl) ?_
       exact (g32_l9_ok k a0 a1 z6 k) z6.1 1
     ·refine oS 26 (b := z5) (by kernel_rfl) (fun hb => ?_) (fun hb => ?_)
      ·let E18 : Env := [(6, .int .i64 (andI .i64 (fW .i64 x0_2) 31)), (8, .int .i64 128), (7, .int .i64 2), (34, .int .i64 (andI .i64 (fW .i64 x0_2) 31)), (33, .int .i64 (fW .i64 x0_2)), (26, .bool true), (0, .str a0), (1, .int .i64 a1), (6, .int .i64 (fW .i64 x0_2)), (26, .bool z5)]
       refine oR 10 (p' := g32p14) (eE := E18) (H' := (mkH [])) (by kernel_rfl) ?_
       refine oK [0, 1, 6, 7, 8] (eE := [(0, .str a0), (1, .int .i64 a1), (6, .int .i64 (andI .i64 (fW .i64 x0_2) 31)), (7, .int .i64 2), (8, .int .i64 128)]) (by kernel_rfl) ?_
       exact hj6 (andI .i64 (fW .i64 x0_2) 31, 2, 128)
      ·let E19 : Env := [(38, .bool (decide (224 ≤ fW .i64 x0_2))), (37, .bool (decide (224 ≤ fW .i64 x0_2))), (36, .int .i64 (fW .i64 x0_2)), (26, .bool false), (0, .str a0), (1, .int .i64 a1), (6, .int .i64 (fW .i64 x0_2)), (26, .bool z5)]
       refine oR 6 (p' := (atN 3 (ctl1 g32p13))) (eE := E19) (H' := (mkH [])) (by kernel_rfl) ?_
       refine oJ (f := fun (z7 : Bool) => if z7 then (j6 (andI .i64 (fW .i64 x0_2) 15, 3, 2048)) else (jn (fun (z8 : Bool) => if z8 then (j6 (andI .i64 (fW .i64 x0_2) 7, 4, 65536)) else (some (((-1) : Int), (1 : Int)))) (fun j8 => if (decide (240 ≤ fW .i64 x0_2)) then (j8 (decide (fW .i64 x0_2 < 248))) else (j8 false)))) g32p15 (fun (z7 : Bool) => [(0, .str a0), (1, .int .i64 a1), (6, .int .i64 (fW .i64 x0_2)), (35, .bool z7)]) (fun (z7 : Bool) => (mkH [])) (fun z7 => ?_) (fun j7 hj7 => ?_)
       ·refine oS 35 (b := z7) (by kernel_rfl) (fun hb => ?_) (fun hb => ?_)
        ·let E20 : Env := [(6, .int .i64 (andI .i64 (fW .i64 x0_2) 15)), (8, .int .i64 2048), (7, .int .i64 3), (43, .int .i64 (andI .i64 (fW .i64 x0_2) 15)), (42, .int .i64 (fW .i64 x0_2)), (35, .bool true), (0, .str a0), (1, .int .i64 a1), (6, .int .i64 (fW .i64 x0_2)), (35, .bool z7)]
         refine oR 10 (p' := g32p14) (eE := E20) (H' := (mkH [])) (by kernel_rfl) ?_
         refine oK [0, 1, 6, 7, 8] (eE := [(0, .str a0), (1, .int .i64 a1), (6, .int .i64 (andI .i64 (fW .i64 x0_2) 15)), (7, .int .i64 3), (8, .int .i64 2048)]) (by kernel_rfl) ?_
         exact hj6 (andI .i64 (fW .i64 x0_2) 15, 3, 2048)
        ·let E21 : Env := [(47, .bool (decide (240 ≤ fW .i64 x0_2))), (46, .bool (decide (240 ≤ fW .i64 x0_2))), (45, .int .i64 (fW .i64 x0_2)), (35, .bool false), (0, .str a0), (1, .int .i64 a1), (6, .int .i64 (fW .i64 x0_2)), (35, .bool z7)]
         refine oR 6 (p' := (atN 3 (ctl1 g32p18))) (eE := E21) (H' := (mkH [])) (by kernel_rfl) ?_
         refine oJ (f := fun (z8 : Bool) => if z8 then (j6 (andI .i64 (fW .i64 x0_2) 7, 4, 65536)) else (some (((-1) : Int), (1 : Int)))) g32p21 (fun (z8 : Bool) => [(0, .str a0), (1, .int .i64 a1), (6, .int .i64 (fW .i64 x0_2)), (44, .bool z8)]) (fun (z8 : Bool) => (mkH [])) (fun z8 => ?_) (fun j8 hj8 => ?_)
         ·refine oS 44 (b := z8) (by kernel_rfl) (fun hb => ?_) (fun hb => ?_)
          ·let E22 : Env := [(6, .int .i64 (andI .i64 (fW .i64 x0_2) 7)), (8, .int .i64 65536), (7, .int .i64 4), (52, .int .i64 (andI .i64 (fW .i64 x0_2) 7)), (51, .int .i64 (fW .i64 x0_2)), (44, .bool true), (0, .str a0), (1, .int .i64 a1), (6, .int .i64 (fW .i64 x0_2)), (44, .bool z8)]
           refine oR 10 (p' := g32p14) (eE := E22) (H' := (mkH [])) (by kernel_rfl) ?_
           refine oK [0, 1, 6, 7, 8] (eE := [(0, .str a0), (1, .int .i64 a1), (6, .int .i64 (andI .i64 (fW .i64 x0_2) 7)), (7, .int .i64 4), (8, .int .i64 65536)]) (by kernel_rfl) ?_
           exact hj6 (andI .i64 (fW .i64 x0_2) 7, 4, 65536)
          ·let E23 : Env := [(5, .int .i64 1), (4, .int .i64 (-1)), (44, .bool false), (0, .str a0), (1, .int .i64 a1), (6, .int .i64 (fW .i64 x0_2)), (44, .bool z8)]
           refine oR 7 (p' := .fin) (eE := E23) (H' := (mkH [])) (by kernel_rfl) ?_
           exact oT (r := (((-1) : Int), (1 : Int))) (xs := [.int .i64 (-1), .int .i64 1]) (v := .tuple [.int .i64 (-1), .int .i64 1]) (by kernel_rfl) (by kernel_rfl) (by kernel_rfl) (.pures (by kernel_rfl)) (by kernel_rfl)
         ·refine oS 47 (b := decide (240 ≤ fW .i64 x0_2)) (by kernel_rfl) (fun hb => ?_) (fun hb => ?_)
          ·let E24 : Env := ((44, .bool (decide (fW .i64 x0_2 < 248))) :: (50, .bool (decide (fW .i64 x0_2 < 248))) :: (49, .bool (decide (fW .i64 x0_2 < 248))) :: (48, .int .i64 (fW .i64 x0_2)) :: (47, .bool true) :: E21)
           refine oR 5 (p' := g32p21) (eE := E24) (H' := (mkH [])) (by kernel_rfl) ?_
           refine oK [0, 1, 6, 44] (eE := [(0, .str a0), (1, .int .i64 a1), (6, .int .i64 (fW .i64 x0_2)), (44, .bool (decide (fW .i64 x0_2 < 248)))]) (by kernel_rfl) ?_
           exact hj8 (decide (fW .i64 x0_2 < 248))
          ·let E25 : Env := ((44, .bool false) :: (50, .bool false) :: (49, .tuple []) :: (48, .tuple []) :: (47, .bool false) :: E21)
           refine oR 5 (p' := g32p21) (eE := E25) (H' := (mkH [])) (by kernel_rfl) ?_
           refine oK [0, 1, 6, 44] (eE := [(0, .str a0), (1, .int .i64 a1), (6, .int .i64 (fW .i64 x0_2)), (44, .bool false)]) (by kernel_rfl) ?_
           exact hj8 false
       ·refine oS 38 (b := decide (224 ≤ fW .i64 x0_2)) (by kernel_rfl) (fun hb => ?_) (fun hb => ?_)
        ·let E26 : Env := ((35, .bool (decide (fW .i64 x0_2 < 240))) :: (41, .bool (decide (fW .i64 x0_2 < 240))) :: (40, .bool (decide (fW .i64 x0_2 < 240))) :: (39, .int .i64 (fW .i64 x0_2)) :: (38, .bool true) :: E19)
         refine oR 5 (p' := g32p15) (eE := E26) (H' := (mkH [])) (by kernel_rfl) ?_
         refine oK [0, 1, 6, 35] (eE := [(0, .str a0), (1, .int .i64 a1), (6, .int .i64 (fW .i64 x0_2)), (35, .bool (decide (fW .i64 x0_2 < 240)))]) (by kernel_rfl) ?_
         exact hj7 (decide (fW .i64 x0_2 < 240))
        ·let E27 : Env := ((35, .bool false) :: (41, .bool false) :: (40, .tuple []) :: (39, .tuple []) :: (38, .bool false) :: E19)
         refine oR 5 (p' := g32p15) (eE := E27) (H' := (mkH [])) (by kernel_rfl) ?_
         refine oK [0, 1, 6, 35] (eE := [(0, .str a0), (1, .int .i64 a1), (6, .int .i64 (fW .i64 x0_2)), (35, .bool false)]) (by kernel_rfl) ?_
         exact hj7 false
    ·refine oS 29 (b := decide (192 ≤ fW .i64 x0_2)) (by kernel_rfl) (fun hb => ?_) (fun hb => ?_)
     ·let E28 : Env := ((26, .bool (decide (fW .i64 x0_2 < 224))) :: (32, .bool (decide (fW .i64 x0_2 < 224))) :: (31, .bool (decide (fW .i64 x0_2 < 224))) :: (30, .int .i64 (fW .i64 x0_2)) :: (29, .bool true) :: (29, .bool (decide (192 ≤ fW .i64 x0_2))) :: (28, .bool (decide (192 ≤ fW .i64 x0_2))) :: (27, .int .i64 (fW .i64 x0_2)) :: (22, .bool false) :: E5)
      refine oR 5 (p' := g32p11) (eE := E28) (H' := (mkH [])) (by kernel_rfl) ?_
      refine oK [0, 1, 6, 26] (eE := [(0, .str a0), (1, .int .i64 a1), (6, .int .i64 (fW .i64 x0_2)), (26, .bool (decide (fW .i64 x0_2 < 224)))]) (by kernel_rfl) ?_
      exact hj5 (decide (fW .i64 x0_2 < 224))
     ·let E29 : Env := ((26, .bool false) :: (32, .bool false) :: (31, .tuple []) :: (30, .tuple []) :: (29, .bool false) :: (29, .bool (decide (192 ≤ fW .i64 x0_2))) :: (28, .bool (decide (192 ≤ fW .i64 x0_2))) :: (27, .int .i64 (fW .i64 x0_2)) :: (22, .bool false) :: E5)
      refine oR 5 (p' := g32p11) (eE := E29) (H' := (mkH [])) (by kernel_rfl) ?_
      refine oK [0, 1, 6, 26] (eE := [(0, .str a0), (1, .int .i64 a1), (6, .int .i64 (fW .i64 x0_2)), (26, .bool false)]) (by kernel_rfl) ?_
      exact hj5 false
 ·refine oS 12 (b := decide (a1 < 0)) (by kernel_rfl) (fun hb => ?_) (fun hb => ?_)
  ·let E30 : Env := ((17, .bool true) :: (16, .tuple []) :: (15, .tuple []) :: (14, .tuple []) :: (13, .tuple []) :: (12, .bool true) :: E1)
   refine oR 6 (p' := g32p2) (eE := E30) (H' := (mkH [])) (by kernel_rfl) ?_
   refine oK [0, 1, 17] (eE := [(0, .str a0), (1, .int .i64 a1), (17, .bool true)]) (by kernel_rfl) ?_
   exact hj4 true
  ·let E31 : Env := ((17, .bool (decide ((a0.length : Int) ≤ a1))) :: (16, .bool (decide ((a0.length : Int) ≤ a1))) :: (15, .int .i64 (a0.length : Int)) :: (14, .str a0) :: (13, .int .i64 a1) :: (12, .bool false) :: E1)
   refine oR 6 (p' := g32p2) (eE := E31) (H' := (mkH [])) (by kernel_rfl) ?_
   refine oK [0, 1, 17] (eE := [(0, .str a0), (1, .int .i64 a1), (17, .bool (decide ((a0.length : Int) ≤ a1)))]) (by kernel_rfl) ?_
   exact hj4 (decide ((a0.length : Int) ≤ a1))
end
end Go.Proofs.Ytokcjgjgojlhbaa.Am
set_option maxRecDepth 100000
set_option linter.unusedVariables false
namespace Go.Proofs.Ytokcjgjgojlhbaa.Am
open Go
theorem nthS_at {s : List Nat} {i b : Nat} {r : List Nat} (h : s.drop i = b :: r) : nthS s (i : Int) = some (b : Int) := by
 have e : s[i]? = some b := by
  have := List.getElem?_drop (xs := s) (i := i) (j := 0)
  rw [h] at this
  simpa using this.symm
 unfold nthS
 rw [if_pos (by omega)]
 simp [e]
theorem drop_cons {s : List Nat} {i : Nat} (h : i < s.length) : ∃ b r, s.drop i = b :: r ∧ s.drop (i + 1) = r ∧ b ∈ s := by
 refine ⟨s[i], s.drop (i + 1), ?_, rfl, List.getElem_mem h⟩
 exact List.drop_eq_getElem_cons h
def byteOk (b : Nat) : Bool := decide (andI .u8 (b : Int) 63 = ((b % 64 : Nat) : Int)) && decide (andI .u8 (b : Int) 31 = ((b % 32 : Nat) : Int)) && decide (andI .u8 (b : Int) 15 = ((b % 16 : Nat) : Int)) && decide (andI .u8 (b : Int) 7 = ((b % 8 : Nat) : Int)) && (decide (andI .u8 (b : Int) 192 = 128) == decide (b / 64 = 2))
theorem byteOk_all : ((List.range 256).all byteOk) = true := by decide +kernel
theorem byte_ok {b : Nat} (h : b < 256) : andI .u8 (b : Int) 63 = ((b % 64 : Nat) : Int) ∧ andI .u8 (b : Int) 31 = ((b % 32 : Nat) : Int) ∧ andI .u8 (b : Int) 15 = ((b % 16 : Nat) : Int) ∧ andI .u8 (b : Int) 7 = ((b % 8 : Nat) : Int) ∧ (andI .u8 (b : Int) 192 = 128 ↔ b / 64 = 2) := by
 have w := List.all_eq_true.1 byteOk_all b (List.mem_range.2 h)
 simp only [byteOk, Bool.and_eq_true, decide_eq_true_eq, beq_iff_eq] at w
 obtain ⟨⟨⟨⟨w1, w2⟩, w3⟩, w4⟩, w5⟩ := w
 refine ⟨w1, w2, w3, w4, ?_⟩
 constructor
 ·intro h
  rw [decide_eq_true h] at w5
  exact of_decide_eq_true w5.symm
 ·intro h
  rw [decide_eq_true h] at w5
  exact of_decide_eq_true w5
theorem shrC_nat (x : Nat) (n : Nat) : shrC (x : Int) n = ((x / 2 ^ n : Nat) : Int) := by
 unfold shrC
 rw [Int.fdiv_eq_ediv_of_nonneg _ (by exact Int.le_of_lt (Int.pow_pos (by decide)))]
 push_cast
 rfl
theorem fwn (x : Nat) (h : x ≤ 9223372036854775807) : fW .i64 (x : Int) = x := fw64 _ (by omega) (by omega)
theorem or_add (y m : Nat) (hy : y < 1125899906842624) (hm : m < 64) : orI .i64 (shlC .i64 (y : Int) 6) (m : Int) = ((y * 64 + m : Nat) : Int) := by
 have e1 : shlC .i64 (y : Int) 6 = ((y * 64 : Nat) : Int) := by
  unfold shlC
  have : (y : Int) * 2 ^ 6 = ((y * 64 : Nat) : Int) := by push_cast; omega
  rw [this, fwn _ (by omega)]
 rw [e1]
 unfold orI
 have e2 : ∀ x : Nat, x < 2 ^ 63 → (BitVec.ofInt IntKind.i64.bits (x : Int)).toNat = x := by
  intro x hx
  show (BitVec.ofInt 64 (x : Int)).toNat = x
  rw [BitVec.toNat_ofInt]
  omega
 rw [BitVec.toNat_or, e2 _ (by omega), e2 _ (by omega)]
 have e3 : y * 64 ||| m = y * 64 + m := by
  have h := Nat.two_pow_add_eq_or_of_lt (i := 6) hm y
  rw [Nat.mul_comm y 64]
  exact h.symm
 rw [e3, fwn _ (by omega)]
def leadN (c : Nat) : Nat × Nat := if c < 128 then (1, c) else if c / 32 = 6 then (2, c % 32) else if c / 16 = 14 then (3, c % 16) else if c / 8 = 30 then (4, c % 8) else (0, 0)
def moreN : Nat → Nat → List Nat → Option Nat
 | 0, c, _ => some c
 | _ + 1, _, [] => none
 | n + 1, c, b :: r => if b / 64 = 2 then moreN n (c * 64 + b % 64) r else none
def leastN (n : Nat) : Nat := if n = 2 then 128 else if n = 3 then 2048 else if n = 4 then 65536 else 0
def cpN (c : Nat) : Bool := decide (c ≤ 1114111) && !(decide (55296 ≤ c) && decide (c ≤ 57343))
def fitN (n : Nat) : Option Nat → Int × Int
 | none => (-1, 1)
 | some y => if leastN n ≤ y ∧ cpN y = true then ((y : Int), (n : Int)) else (-1, 1)
def dec : List Nat → Int × Int
 | [] => (0, 0)
 | c :: r => if (leadN c).1 = 0 then (-1, 1) else fitN (leadN c).1 (moreN ((leadN c).1 - 1) (leadN c).2 r)
theorem moreN_none : ∀ (n c : Nat) (r : List Nat), r.length < n → moreN n c r = none
 | 0, c, r, h => by omega
 | n + 1, c, [], h => rfl
 | n + 1, c, b :: r, h => by
  unfold moreN
  split
  ·exact moreN_none n _ r (by simp at h; omega)
  ·rfl
theorem lead_at {k c : Nat} (h : c < 256) : g47 k (c : Int) = some (((leadN c).1 : Int), ((leadN c).2 : Int)) := by
 obtain ⟨-, b31, b15, b7, -⟩ := byte_ok h
 unfold g47 leadN
 simp only [shrC_nat, b31, b15, b7]
 have p5 : (2 : Nat) ^ 5 = 32 := rfl
 have p4 : (2 : Nat) ^ 4 = 16 := rfl
 have p3 : (2 : Nat) ^ 3 = 8 := rfl
 rw [p5, p4, p3]
 repeat' split
 all_goals first | (simp only [decide_eq_true_eq] at *; omega) | (simp only []; rw [fwn _ (by omega)]; try rfl) | rfl
theorem cp_at {k c : Nat} : g49 k (c : Int) = some (cpN c) := by
 unfold g49 cpN
 simp only [shrC_nat]
 have p : (2 : Nat) ^ 11 = 2048 := rfl
 rw [p]
 by_cases h1 : c ≤ 1114111
 ·have e1 : decide ((0 : Int) ≤ (c : Int)) = true := by simp
  have e2 : decide ((c : Int) ≤ 1114111) = true := by simp; omega
  have e3 : decide (((c / 2048 : Nat) : Int) = 27) = (decide (55296 ≤ c) && decide (c ≤ 57343)) := by
   rw [Bool.eq_iff_iff]; simp; omega
  rw [e1, e2, e3, decide_eq_true h1]
  rfl
 ·have e2 : decide ((c : Int) ≤ 1114111) = false := by simp; omega
  simp [e2, h1]
theorem point_at {k c : Nat} : g50 k (c : Int) = some (cpN c) := by
 unfold g50 cpN
 by_cases h1 : c ≤ 1114111
 ·by_cases h2 : c < 55296
  ·have : ¬ 55296 ≤ c := by omega
   have e2 : decide ((c : Int) ≤ 1114111) = true := by simp; omega
   have e3 : decide ((c : Int) < 55296) = true := by simp; omega
   simp [e2, e3, h1, this]
  ·have : 55296 ≤ c := by omega
   have e2 : decide ((c : Int) ≤ 1114111) = true := by simp; omega
   have e3 : decide ((c : Int) < 55296) = false := by simp; omega
   simp [e2, e3, h1, this]
   rw [Bool.eq_iff_iff]; simp; omega
 ·have e2 : decide ((c : Int) ≤ 1114111) = false := by simp; omega
  simp [e2, h1]
theorem least_at {k n : Nat} (h : n ≤ 4) : g48 k (n : Int) = some ((leastN n : Nat) : Int) := by
 have : n = 0 ∨ n = 1 ∨ n = 2 ∨ n = 3 ∨ n = 4 := by omega
 obtain rfl | rfl | rfl | rfl | rfl := this <;> rfl
end Go.Proofs.Ytokcjgjgojlhbaa.Am
set_option maxRecDepth 100000
set_option linter.unusedVariables false
set_option linter.unusedSimpArgs false
namespace Go.Proofs.Ytokcjgjgojlhbaa.Am
open Go
theorem pow64_le {i : Nat} (h : i ≤ 3) : 64 ^ i ≤ 262144 := by
 have : i = 0 ∨ i = 1 ∨ i = 2 ∨ i = 3 := by omega
 obtain rfl | rfl | rfl | rfl := this <;> decide
theorem pow64_step {y i b : Nat} (h : y < 64 ^ i) : y * 64 + b % 64 < 64 ^ (i + 1) := by
 rw [Nat.pow_succ]
 have := Nat.mod_lt b (by decide : 0 < 64)
 generalize 64 ^ i = P at h ⊢
 omega
theorem next_l (k : Nat) (s : List Nat) (hs : ∀ b ∈ s, b < 256) (hl : s.length ≤ 140737488351232) (at' n q : Nat) (hn : n ≤ 4) (hat : at' + n ≤ s.length) : ∀ (d m i y : Nat), i + d = n → 1 ≤ i → y < 64 ^ i →
 g31_l5 k s (at' : Int) ((n : Int), (q : Int)) (d + 1 + m) (y : Int) (i : Int) = some (fitN n (moreN d y (s.drop (at' + i))))
 | 0, m, i, y, hi, h1, hy => by
  rw [show 0 + 1 + m = m + 1 from by omega, g31_l5_s]
  have e1 : decide ((i : Int) < (n : Int)) = false := by simp; omega
  simp only [e1, least_at hn, cp_at, moreN, fitN, Option.bind_some, jn]
  by_cases h : leastN n ≤ y
  ·have e2 : decide ((y : Int) < ((leastN n : Nat) : Int)) = false := by simp; omega
   cases hc : cpN y <;> simp [e2, h, hc]
  ·have e2 : decide ((y : Int) < ((leastN n : Nat) : Int)) = true := by simp; omega
   simp [e2, h]
 | d + 1, m, i, y, hi, h1, hy => by
  rw [show d + 1 + 1 + m = (d + 1 + m) + 1 from by omega, g31_l5_s]
  have e1 : decide ((i : Int) < (n : Int)) = true := by simp; omega
  obtain ⟨b, r, hb, hr, hm⟩ := drop_cons (s := s) (i := at' + i) (by omega)
  have e2 : fW .i64 ((at' : Int) + (i : Int)) = ((at' + i : Nat) : Int) := by
   have : (at' : Int) + (i : Int) = ((at' + i : Nat) : Int) := by push_cast; rfl
   rw [this, fwn _ (by omega)]
  obtain ⟨b63, -, -, -, -⟩ := byte_ok (hs b hm)
  have hi4 : i ≤ 3 := by omega
  have a1 : i + 1 + d = n := by rw [← hi]; exact Nat.add_right_comm i 1 d
  have a2 : 1 ≤ i + 1 := Nat.le_add_left 1 i
  have a3 : y * 64 + b % 64 < 64 ^ (i + 1) := pow64_step hy
  have hp : 64 ^ i ≤ 262144 := pow64_le hi4
  have e3 : fW .i64 ((i : Int) + 1) = ((i + 1 : Nat) : Int) := by
   have : (i : Int) + 1 = ((i + 1 : Nat) : Int) := by push_cast; rfl
   rw [this, fwn _ (by omega)]
  have p6 : (2 : Nat) ^ 6 = 64 := rfl
  simp only [e1, e2, nthS_at hb, Option.bind_some, shrC_nat, p6, b63, if_true]
  by_cases h : b / 64 = 2
  ·have e4 : decide (((b / 64 : Nat) : Int) = 2) = true := by simp; omega
   have ih := next_l k s hs hl at' n q hn hat d m (i + 1) (y * 64 + b % 64) a1 a2 a3
   rw [e4, fwn _ (by omega : b % 64 ≤ 9223372036854775807), or_add _ _ (by omega) (by omega), e3, ih, hb, show at' + (i + 1) = at' + i + 1 from by omega, hr]
   simp [moreN, h]
  ·have e4 : decide (((b / 64 : Nat) : Int) = 2) = false := by simp; omega
   rw [e4, hb]
   simp [moreN, h, fitN]
theorem rnext_l (k : Nat) (s : List Nat) (hs : ∀ b ∈ s, b < 256) (hl : s.length ≤ 140737488351232) (at' n q : Nat) (hn : n ≤ 4) (hat : at' + n ≤ s.length) : ∀ (d m i y : Nat), i + d = n → 1 ≤ i → y < 64 ^ i →
 g32_l9 k s (at' : Int) ((q : Int), (n : Int), ((leastN n : Nat) : Int)) (d + 1 + m) (y : Int) (i : Int) = some (fitN n (moreN d y (s.drop (at' + i))))
 | 0, m, i, y, hi, h1, hy => by
  rw [show 0 + 1 + m = m + 1 from by omega, g32_l9_s]
  have e1 : decide ((i : Int) < (n : Int)) = false := by simp; omega
  simp only [e1, point_at, moreN, fitN, Option.bind_some, jn]
  by_cases h : leastN n ≤ y
  ·have e2 : decide ((y : Int) < ((leastN n : Nat) : Int)) = false := by simp; omega
   cases hc : cpN y <;> simp [e2, h, hc]
  ·have e2 : decide ((y : Int) < ((leastN n : Nat) : Int)) = true := by simp; omega
   simp [e2, h]
 | d + 1, m, i, y, hi, h1, hy => by
  rw [show d + 1 + 1 + m = (d + 1 + m) + 1 from by omega, g32_l9_s]
  have e1 : decide ((i : Int) < (n : Int)) = true := by simp; omega
  obtain ⟨b, r, hb, hr, hm⟩ := drop_cons (s := s) (i := at' + i) (by omega)
  have e2 : fW .i64 ((at' : Int) + (i : Int)) = ((at' + i : Nat) : Int) := by
   have : (at' : Int) + (i : Int) = ((at' + i : Nat) : Int) := by push_cast; rfl
   rw [this, fwn _ (by omega)]
  obtain ⟨b63, -, -, -, b192⟩ := byte_ok (hs b hm)
  have hi4 : i ≤ 3 := by omega
  have a1 : i + 1 + d = n := by rw [← hi]; exact Nat.add_right_comm i 1 d
  have a2 : 1 ≤ i + 1 := Nat.le_add_left 1 i
  have a3 : y * 64 + b % 64 < 64 ^ (i + 1) := pow64_step hy
  have hp : 64 ^ i ≤ 262144 := pow64_le hi4
  have e3 : fW .i64 ((i : Int) + 1) = ((i + 1 : Nat) : Int) := by
   have : (i : Int) + 1 = ((i + 1 : Nat) : Int) := by push_cast; rfl
   rw [this, fwn _ (by omega)]
  have e5 : fW .i64 (fW .i64 ((y : Int) * 64) + ((b % 64 : Nat) : Int)) = ((y * 64 + b % 64 : Nat) : Int) := by
   have : (y : Int) * 64 = ((y * 64 : Nat) : Int) := by push_cast; rfl
   rw [this, fwn _ (by omega)]
   have : ((y * 64 : Nat) : Int) + ((b % 64 : Nat) : Int) = ((y * 64 + b % 64 : Nat) : Int) := by push_cast; rfl
   rw [this, fwn _ (by omega)]
  simp only [e1, e2, nthS_at hb, Option.bind_some, b63, if_true]
  by_cases h : b / 64 = 2
  ·have e4 : decide (andI .u8 (b : Int) 192 = 128) = true := decide_eq_true (b192.2 h)
   have ih := rnext_l k s hs hl at' n q hn hat d m (i + 1) (y * 64 + b % 64) a1 a2 a3
   rw [e4, fwn _ (by omega : b % 64 ≤ 9223372036854775807), e5, e3, ih, hb, show at' + (i + 1) = at' + i + 1 from by omega, hr]
   simp [moreN, h]
  ·have e4 : decide (andI .u8 (b : Int) 192 = 128) = false := decide_eq_false (fun w => h (b192.1 w))
   rw [e4, hb]
   simp [moreN, h, fitN]
end Go.Proofs.Ytokcjgjgojlhbaa.Am
set_option maxRecDepth 100000
set_option linter.unusedVariables false
namespace Go.Proofs.Ytokcjgjgojlhbaa.Am
noncomputable section
open Go
def X18 : Fx Bool := ⟨Try.prog, cx, Try.f18, fun r => .bool r, 0, fun _ => H0, cxTi, cxOrd⟩
def g18p0 : Pt := nav [0] (bodyAt Try.f18)
def g18p1 : Pt := nav [0, 0, 0, 0] g18p0
def g18p2 : Pt := nav [0, 0, 0, 0] g18p1
def g18p3 : Pt := nav [0, 0, 0] g18p2
def g18p4 : Pt := nav [0, 0] g18p3
def g18p5 : Pt := nav [1, 0, 0, 0] g18p4
def g18p7 : Pt := nav [0, 0, 0, 0] g18p5
def g18p9 : Pt := nav [0, 0] g18p7
def g18_l1 (k : Nat)  (a0 : (List Nat)) (n : Nat) : Int → Option Bool :=
 Nat.rec (motive := fun _ => Int → Option Bool) (fun _ => none) (fun _ ih => fun (y1_0 : Int) => if (decide (y1_0 < (a0.length : Int))) then ((g31 k a0 y1_0).bind fun x0_2 => if (decide (x0_2.1 < 0)) then (some false) else (ih (fW .i64 (y1_0 + x0_2.2)))) else (some true)) n
theorem g18_l1_s (k : Nat)  (a0 : (List Nat)) (n : Nat) (y1_0 : Int) : g18_l1 k a0 (n + 1) y1_0 = (if (decide (y1_0 < (a0.length : Int))) then ((g31 k a0 y1_0).bind fun x0_2 => if (decide (x0_2.1 < 0)) then (some false) else ((g18_l1 k a0 n) (fW .i64 (y1_0 + x0_2.2)))) else (some true)) := rfl
theorem g18_l1_ok (k : Nat)  (a0 : (List Nat))  : ∀ (n : Nat) (y1_0 : Int), Ok X18 g18p2 [(0, .str a0), (3, .int .i64 y1_0)] (mkH []) (g18_l1 k a0 n y1_0)
 | 0, _ => ok_none
 | n + 1, y1_0 => by
  have ih := g18_l1_ok k a0 n
  rw [g18_l1_s]
  refine ok_ent (p' := nav [0] g18p2) (by kernel_rfl) ?_
  let E1 : Env := [(9, .bool (decide (y1_0 < (a0.length : Int)))), (8, .int .i64 (a0.length : Int)), (7, .str a0), (6, .int .i64 y1_0), (0, .str a0), (3, .int .i64 y1_0)]
  refine oR 8 (p' := g18p4) (eE := E1) (H' := (mkH [])) (by kernel_rfl) ?_
  refine oS 9 (b := decide (y1_0 < (a0.length : Int))) (by kernel_rfl) (fun hb => ?_) (fun hb => ?_)
  ·refine oR 7 (p' := (atN 2 (ctl1 g18p5))) (eE := ((12, .int .i64 y1_0) :: (11, .str a0) :: (9, .bool true) :: E1)) (H' := (mkH [])) (by kernel_rfl) ?_
   refine oC (fun (x0_2 : (Int × Int)) => .tuple [.int .i64 x0_2.1, .int .i64 x0_2.2]) (atN 3 (ctl1 g18p5)) (fun x0_2 => ((13, .tuple [.int .i64 x0_2.1, .int .i64 x0_2.2]) :: (12, .int .i64 y1_0) :: (11, .str a0) :: (9, .bool true) :: E1)) (fi := 31) (args := [.str a0, .int .i64 y1_0]) (by kernel_rfl) (by kernel_rfl) (fun _ => by kernel_rfl) (fun r h => g31_ok k a0 y1_0 r h) (fun _ => by kernel_rfl) (fun x0_2 hx0_2 => ?_)
   let E2 : Env := ((5, .int .i64 x0_2.2) :: (4, .int .i64 x0_2.1) :: (15, .int .i64 x0_2.2) :: (14, .int .i64 x0_2.1) :: (10, .tuple [.int .i64 x0_2.1, .int .i64 x0_2.2]) :: (13, .tuple [.int .i64 x0_2.1, .int .i64 x0_2.2]) :: (12, .int .i64 y1_0) :: (11, .str a0) :: (9, .bool true) :: E1)
   refine oR 8 (p' := g18p7) (eE := E2) (H' := (mkH [])) (by kernel_rfl) ?_
   refine oK [0, 3, 4, 5] (eE := [(0, .str a0), (3, .int .i64 y1_0), (4, .int .i64 x0_2.1), (5, .int .i64 x0_2.2)]) (by kernel_rfl) ?_
   let E3 : Env := [(17, .bool (decide (x0_2.1 < 0))), (16, .int .i64 x0_2.1), (0, .str a0), (3, .int .i64 y1_0), (4, .int .i64 x0_2.1), (5, .int .i64 x0_2.2)]
   refine oR 4 (p' := g18p9) (eE := E3) (H' := (mkH [])) (by kernel_rfl) ?_
   refine oS 17 (b := decide (x0_2.1 < 0)) (by kernel_rfl) (fun hb => ?_) (fun hb => ?_)
   ·refine oR 6 (p' := .fin) (eE := ((2, .bool false) :: (17, .bool true) :: E3)) (H' := (mkH [])) (by kernel_rfl) ?_
    exact oT (r := false) (xs := [.bool false]) (v := .bool false) (by kernel_rfl) (by kernel_rfl) (by kernel_rfl) (.pures (by kernel_rfl)) (by kernel_rfl)
   ·let E4 : Env := ((3, .int .i64 (fW .i64 (y1_0 + x0_2.2))) :: (20, .int .i64 (fW .i64 (y1_0 + x0_2.2))) :: (19, .int .i64 x0_2.2) :: (18, .int .i64 y1_0) :: (17, .bool false) :: E3)
    refine oR 8 (p' := g18p2) (eE := E4) (H' := (mkH [])) (by kernel_rfl) ?_
    refine oK [0, 3] (eE := [(0, .str a0), (3, .int .i64 (fW .i64 (y1_0 + x0_2.2)))]) (by kernel_rfl) ?_
    exact ih (fW .i64 (y1_0 + x0_2.2))
  ·refine oR 7 (p' := .fin) (eE := ((2, .bool true) :: (9, .bool false) :: E1)) (H' := (mkH [])) (by kernel_rfl) ?_
   exact oT (r := true) (xs := [.bool true]) (v := .bool true) (by kernel_rfl) (by kernel_rfl) (by kernel_rfl) (.pures (by kernel_rfl)) (by kernel_rfl)
def g18 (k : Nat) (a0 : (List Nat)) : Option Bool :=
 g18_l1 k a0 k 0
theorem g18_ok (k : Nat) (a0 : (List Nat)) (r : Bool) (h : g18 k a0 = some r) : PureOk Try.prog 18 [.str a0] (.bool r) := by
 refine pure_of X18 (fun _ => rfl) Try.func18 (by decide +kernel) (by kernel_rfl) (t := g18 k a0) ?_ h
 unfold g18
 refine oE (eE := [(0, .str a0)]) (by kernel_rfl) ?_
 refine oR 11 (p' := g18p2) (eE := [(3, .int .i64 0), (2, .bool false), (0, .str a0)]) (H' := (mkH [])) (by kernel_rfl) ?_
 refine oK [0, 3] (eE := [(0, .str a0), (3, .int .i64 0)]) (by kernel_rfl) ?_
 exact (g18_l1_ok k a0 k) 0
end
end Go.Proofs.Ytokcjgjgojlhbaa.Am
set_option maxRecDepth 100000
set_option linter.unusedVariables false
namespace Go.Proofs.Ytokcjgjgojlhbaa.Am
noncomputable section
open Go
def X19 : Fx Bool := ⟨Try.prog, cx, Try.f19, fun r => .bool r, 0, fun _ => H0, cxTi, cxOrd⟩
def g19p0 : Pt := nav [0] (bodyAt Try.f19)
def g19p1 : Pt := nav [0, 0, 0, 0] g19p0
def g19p2 : Pt := nav [0, 0, 0, 0] g19p1
def g19p3 : Pt := nav [0, 0, 0] g19p2
def g19p4 : Pt := nav [0, 0] g19p3
def g19p5 : Pt := nav [1, 0, 0, 0] g19p4
def g19p7 : Pt := nav [0, 0, 0, 0] g19p5
def g19p9 : Pt := nav [0, 0] g19p7
def g19_l1 (k : Nat)  (a0 : (List Nat)) (n : Nat) : Int → Option Bool :=
 Nat.rec (motive := fun _ => Int → Option Bool) (fun _ => none) (fun _ ih => fun (y1_0 : Int) => if (decide (y1_0 < (a0.length : Int))) then ((g32 k a0 y1_0).bind fun x0_2 => if (decide (x0_2.1 < 0)) then (some false) else (ih (fW .i64 (y1_0 + x0_2.2)))) else (some true)) n
theorem g19_l1_s (k : Nat)  (a0 : (List Nat)) (n : Nat) (y1_0 : Int) : g19_l1 k a0 (n + 1) y1_0 = (if (decide (y1_0 < (a0.length : Int))) then ((g32 k a0 y1_0).bind fun x0_2 => if (decide (x0_2.1 < 0)) then (some false) else ((g19_l1 k a0 n) (fW .i64 (y1_0 + x0_2.2)))) else (some true)) := rfl
theorem g19_l1_ok (k : Nat)  (a0 : (List Nat))  : ∀ (n : Nat) (y1_0 : Int), Ok X19 g19p2 [(0, .str a0), (3, .int .i64 y1_0)] (mkH []) (g19_l1 k a0 n y1_0)
 | 0, _ => ok_none
 | n + 1, y1_0 => by
  have ih := g19_l1_ok k a0 n
  rw [g19_l1_s]
  refine ok_ent (p' := nav [0] g19p2) (by kernel_rfl) ?_
  let E1 : Env := [(9, .bool (decide (y1_0 < (a0.length : Int)))), (8, .int .i64 (a0.length : Int)), (7, .str a0), (6, .int .i64 y1_0), (0, .str a0), (3, .int .i64 y1_0)]
  refine oR 8 (p' := g19p4) (eE := E1) (H' := (mkH [])) (by kernel_rfl) ?_
  refine oS 9 (b := decide (y1_0 < (a0.length : Int))) (by kernel_rfl) (fun hb => ?_) (fun hb => ?_)
  ·refine oR 7 (p' := (atN 2 (ctl1 g19p5))) (eE := ((12, .int .i64 y1_0) :: (11, .str a0) :: (9, .bool true) :: E1)) (H' := (mkH [])) (by kernel_rfl) ?_
   refine oC (fun (x0_2 : (Int × Int)) => .tuple [.int .i64 x0_2.1, .int .i64 x0_2.2]) (atN 3 (ctl1 g19p5)) (fun x0_2 => ((13, .tuple [.int .i64 x0_2.1, .int .i64 x0_2.2]) :: (12, .int .i64 y1_0) :: (11, .str a0) :: (9, .bool true) :: E1)) (fi := 32) (args := [.str a0, .int .i64 y1_0]) (by kernel_rfl) (by kernel_rfl) (fun _ => by kernel_rfl) (fun r h => g32_ok k a0 y1_0 r h) (fun _ => by kernel_rfl) (fun x0_2 hx0_2 => ?_)
   let E2 : Env := ((5, .int .i64 x0_2.2) :: (4, .int .i64 x0_2.1) :: (15, .int .i64 x0_2.2) :: (14, .int .i64 x0_2.1) :: (10, .tuple [.int .i64 x0_2.1, .int .i64 x0_2.2]) :: (13, .tuple [.int .i64 x0_2.1, .int .i64 x0_2.2]) :: (12, .int .i64 y1_0) :: (11, .str a0) :: (9, .bool true) :: E1)
   refine oR 8 (p' := g19p7) (eE := E2) (H' := (mkH [])) (by kernel_rfl) ?_
   refine oK [0, 3, 4, 5] (eE := [(0, .str a0), (3, .int .i64 y1_0), (4, .int .i64 x0_2.1), (5, .int .i64 x0_2.2)]) (by kernel_rfl) ?_
   let E3 : Env := [(17, .bool (decide (x0_2.1 < 0))), (16, .int .i64 x0_2.1), (0, .str a0), (3, .int .i64 y1_0), (4, .int .i64 x0_2.1), (5, .int .i64 x0_2.2)]
   refine oR 4 (p' := g19p9) (eE := E3) (H' := (mkH [])) (by kernel_rfl) ?_
   refine oS 17 (b := decide (x0_2.1 < 0)) (by kernel_rfl) (fun hb => ?_) (fun hb => ?_)
   ·refine oR 6 (p' := .fin) (eE := ((2, .bool false) :: (17, .bool true) :: E3)) (H' := (mkH [])) (by kernel_rfl) ?_
    exact oT (r := false) (xs := [.bool false]) (v := .bool false) (by kernel_rfl) (by kernel_rfl) (by kernel_rfl) (.pures (by kernel_rfl)) (by kernel_rfl)
   ·let E4 : Env := ((3, .int .i64 (fW .i64 (y1_0 + x0_2.2))) :: (20, .int .i64 (fW .i64 (y1_0 + x0_2.2))) :: (19, .int .i64 x0_2.2) :: (18, .int .i64 y1_0) :: (17, .bool false) :: E3)
    refine oR 8 (p' := g19p2) (eE := E4) (H' := (mkH [])) (by kernel_rfl) ?_
    refine oK [0, 3] (eE := [(0, .str a0), (3, .int .i64 (fW .i64 (y1_0 + x0_2.2)))]) (by kernel_rfl) ?_
    exact ih (fW .i64 (y1_0 + x0_2.2))
  ·refine oR 7 (p' := .fin) (eE := ((2, .bool true) :: (9, .bool false) :: E1)) (H' := (mkH [])) (by kernel_rfl) ?_
   exact oT (r := true) (xs := [.bool true]) (v := .bool true) (by kernel_rfl) (by kernel_rfl) (by kernel_rfl) (.pures (by kernel_rfl)) (by kernel_rfl)
def g19 (k : Nat) (a0 : (List Nat)) : Option Bool :=
 g19_l1 k a0 k 0
theorem g19_ok (k : Nat) (a0 : (List Nat)) (r : Bool) (h : g19 k a0 = some r) : PureOk Try.prog 19 [.str a0] (.bool r) := by
 refine pure_of X19 (fun _ => rfl) Try.func19 (by decide +kernel) (by kernel_rfl) (t := g19 k a0) ?_ h
 unfold g19
 refine oE (eE := [(0, .str a0)]) (by kernel_rfl) ?_
 refine oR 11 (p' := g19p2) (eE := [(3, .int .i64 0), (2, .bool false), (0, .str a0)]) (H' := (mkH [])) (by kernel_rfl) ?_
 refine oK [0, 3] (eE := [(0, .str a0), (3, .int .i64 0)]) (by kernel_rfl) ?_
 exact (g19_l1_ok k a0 k) 0
end
end Go.Proofs.Ytokcjgjgojlhbaa.Am
set_option maxRecDepth 100000
set_option linter.unusedVariables false
set_option linter.unusedSimpArgs false
namespace Go.Proofs.Ytokcjgjgojlhbaa.Am
open Go
theorem lead_le (c : Nat) : (leadN c).1 ≤ 4 := by
 unfold leadN; repeat' split
 all_goals simp
theorem lead_lt {c : Nat} (h : 2 ≤ (leadN c).1) : (leadN c).2 < 64 ^ 1 := by
 unfold leadN at *
 split at h
 ·simp at h
 ·rename_i h1
  rw [if_neg h1]
  repeat' split
  all_goals (simp only []; omega)
theorem next_at {k : Nat} (hk : 6 ≤ k) {s : List Nat} (hs : ∀ b ∈ s, b < 256) (hl : s.length ≤ 140737488351232) (i : Nat) : g31 k s (i : Int) = some (dec (s.drop i)) := by
 unfold g31
 have e0 : decide ((i : Int) < 0) = false := decide_eq_false (by omega)
 by_cases hi : i < s.length
 ·have e1 : decide ((s.length : Int) ≤ (i : Int)) = false := by simp; omega
  obtain ⟨c, r, hc, hr, hm⟩ := drop_cons hi
  have hc' := hs c hm
  have hrl : r.length + i + 1 = s.length := by rw [← hr, List.length_drop]; omega
  have e2 : fW .i64 ((s.length : Int) - (i : Int)) = ((r.length + 1 : Nat) : Int) := by
   have : (s.length : Int) - (i : Int) = ((r.length + 1 : Nat) : Int) := by omega
   rw [this, fwn _ (by omega)]
  simp only [e0, e1, nthS_at hc, lead_at hc', Option.bind_some, jn, e2, hc, dec]
  have l4 := lead_le c
  by_cases h0 : (leadN c).1 = 0
  ·simp [h0]
  ·have e3 : decide ((((leadN c).1 : Nat) : Int) = 0) = false := by simp; omega
   rw [if_neg h0, e3]
   by_cases h1 : r.length + 1 < (leadN c).1
   ·have e4 : decide (((r.length + 1 : Nat) : Int) < (((leadN c).1 : Nat) : Int)) = true := by simp only [decide_eq_true_eq]; omega
    rw [e4, moreN_none _ _ _ (by omega)]
    rfl
   ·have e4 : decide (((r.length + 1 : Nat) : Int) < (((leadN c).1 : Nat) : Int)) = false := by simp only [decide_eq_false_iff_not]; omega
    rw [e4]
    simp only [if_false, Bool.false_eq_true]
    by_cases h2 : (leadN c).1 = 1
    ·have w := next_l k s hs hl i 1 (leadN c).2 (by decide) (by omega) 0 (k - 1) 1
     obtain ⟨k', rfl⟩ : ∃ k', k = k' + 1 := ⟨k - 1, by omega⟩
     rw [h2, g31_l5_s]
     have e5 : decide ((1 : Int) < ((1 : Nat) : Int)) = false := by decide
     simp only [e5, least_at (by decide : 1 ≤ 4), cp_at, Option.bind_some, jn, moreN, fitN]
     have e6 : decide ((((leadN c).2 : Nat) : Int) < ((leastN 1 : Nat) : Int)) = false := by simp [leastN]
     rw [e6]
     have e7 : leastN 1 ≤ (leadN c).2 := by simp [leastN]
     cases hcp : cpN (leadN c).2 <;> simp [e7, moreN, hcp]
    ·have w := next_l k s hs hl i (leadN c).1 (leadN c).2 l4 (by omega) ((leadN c).1 - 1) (k - (leadN c).1) 1 (leadN c).2 (by omega) (by decide) (lead_lt (by omega))
     rw [show (leadN c).1 - 1 + 1 + (k - (leadN c).1) = k from by omega, hr] at w
     exact w
 ·have e1 : decide ((s.length : Int) ≤ (i : Int)) = true := by simp; omega
  rw [e0, e1, List.drop_eq_nil_of_le (by omega)]
  rfl
theorem rnext_at {k : Nat} (hk : 6 ≤ k) {s : List Nat} (hs : ∀ b ∈ s, b < 256) (hl : s.length ≤ 140737488351232) (i : Nat) : g32 k s (i : Int) = some (dec (s.drop i)) := by
 unfold g32
 have e0 : decide ((i : Int) < 0) = false := decide_eq_false (by omega)
 by_cases hi : i < s.length
 ·have e1 : decide ((s.length : Int) ≤ (i : Int)) = false := by simp; omega
  obtain ⟨c, r, hc, hr, hm⟩ := drop_cons hi
  have hc' := hs c hm
  have hrl : r.length + i + 1 = s.length := by rw [← hr, List.length_drop]; omega
  have e2 : fW .i64 ((s.length : Int) - (i : Int)) = ((r.length + 1 : Nat) : Int) := by
   have : (s.length : Int) - (i : Int) = ((r.length + 1 : Nat) : Int) := by omega
   rw [this, fwn _ (by omega)]
  have a31 : andI .i64 (c : Int) 31 = ((c % 32 : Nat) : Int) := by have := andI64 (c : Int) 5 (by decide); exact this
  have a15 : andI .i64 (c : Int) 15 = ((c % 16 : Nat) : Int) := by have := andI64 (c : Int) 4 (by decide); exact this
  have a7 : andI .i64 (c : Int) 7 = ((c % 8 : Nat) : Int) := by have := andI64 (c : Int) 3 (by decide); exact this
  simp only [e0, e1, nthS_at hc, Option.bind_some, jn, e2, hc, dec, fwn c (by omega), a31, a15, a7]
  have step : ∀ (n q : Nat), 2 ≤ n → n ≤ 4 → q < 64 ^ 1 → leadN c = (n, q) →
   (if decide (((r.length + 1 : Nat) : Int) < (n : Int)) then some ((-1 : Int), (1 : Int)) else g32_l9 k s (i : Int) ((q : Int), (n : Int), ((leastN n : Nat) : Int)) k (q : Int) 1) = some (fitN n (moreN (n - 1) q r)) := by
   intro n q hn hn4 hq hlead
   by_cases h1 : r.length + 1 < n
   ·rw [if_pos (by simp only [decide_eq_true_eq]; omega), moreN_none _ _ _ (by omega)]
    rfl
   ·rw [if_neg (by simp only [decide_eq_true_eq]; omega)]
    have w := rnext_l k s hs hl i n q hn4 (by omega) (n - 1) (k - n) 1 q (by omega) (by decide) hq
    rw [show n - 1 + 1 + (k - n) = k from by omega, hr] at w
    exact w
  by_cases c1 : c < 128
  ·have : leadN c = (1, c) := by unfold leadN; rw [if_pos c1]
   have hcp : cpN c = true := by unfold cpN; simp; omega
   rw [this, decide_eq_true (show (c : Int) < 128 by omega)]
   simp [moreN, fitN, leastN, hcp]
  ·rw [decide_eq_false (show ¬ (c : Int) < 128 by omega)]
   simp only [Bool.false_eq_true, if_false]
   by_cases c2 : 192 ≤ c ∧ c < 224
   ·have hL : leadN c = (2, c % 32) := by unfold leadN; rw [if_neg c1, if_pos (by omega)]
    rw [decide_eq_true (show (192 : Int) ≤ (c : Int) by omega), decide_eq_true (show (c : Int) < 224 by omega), hL]
    exact step 2 (c % 32) (by decide) (by decide) (by omega) hL
   ·have n1 : ¬ c / 32 = 6 := by omega
    by_cases c3 : 224 ≤ c ∧ c < 240
    ·have hL : leadN c = (3, c % 16) := by unfold leadN; rw [if_neg c1, if_neg n1, if_pos (by omega)]
     rw [decide_eq_true (show (192 : Int) ≤ (c : Int) by omega), decide_eq_false (show ¬ (c : Int) < 224 by omega), decide_eq_true (show (224 : Int) ≤ (c : Int) by omega), decide_eq_true (show (c : Int) < 240 by omega), hL]
     exact step 3 (c % 16) (by decide) (by decide) (by omega) hL
    ·have n2 : ¬ c / 16 = 14 := by omega
     by_cases c4 : 240 ≤ c ∧ c < 248
     ·have hL : leadN c = (4, c % 8) := by unfold leadN; rw [if_neg c1, if_neg n1, if_neg n2, if_pos (by omega)]
      rw [decide_eq_true (show (192 : Int) ≤ (c : Int) by omega), decide_eq_false (show ¬ (c : Int) < 224 by omega), decide_eq_true (show (224 : Int) ≤ (c : Int) by omega), decide_eq_false (show ¬ (c : Int) < 240 by omega), decide_eq_true (show (240 : Int) ≤ (c : Int) by omega), decide_eq_true (show (c : Int) < 248 by omega), hL]
      exact step 4 (c % 8) (by decide) (by decide) (by omega) hL
     ·have n3 : ¬ c / 8 = 30 := by omega
      have hL : leadN c = (0, 0) := by unfold leadN; rw [if_neg c1, if_neg n1, if_neg n2, if_neg n3]
      rw [hL]
      by_cases d1 : 192 ≤ c
      ·rw [decide_eq_true (show (192 : Int) ≤ (c : Int) by omega), decide_eq_false (show ¬ (c : Int) < 224 by omega), decide_eq_true (show (224 : Int) ≤ (c : Int) by omega), decide_eq_false (show ¬ (c : Int) < 240 by omega), decide_eq_true (show (240 : Int) ≤ (c : Int) by omega), decide_eq_false (show ¬ (c : Int) < 248 by omega)]
       rfl
      ·rw [decide_eq_false (show ¬ (192 : Int) ≤ (c : Int) by omega), decide_eq_false (show ¬ (224 : Int) ≤ (c : Int) by omega), decide_eq_false (show ¬ (240 : Int) ≤ (c : Int) by omega)]
       rfl
 ·have e1 : decide ((s.length : Int) ≤ (i : Int)) = true := by simp; omega
  rw [e0, e1, List.drop_eq_nil_of_le (by omega)]
  rfl
theorem dec_size {s : List Nat} (h : s ≠ []) : ∃ n : Nat, (dec s).2 = (n : Int) ∧ 1 ≤ n ∧ n ≤ 4 ∧ n ≤ s.length ∧ ((dec s).1 < 0 → n = 1) := by
 cases s with
 | nil => exact absurd rfl h
 | cons c r =>
  have hd : dec (c :: r) = if (leadN c).1 = 0 then (-1, 1) else fitN (leadN c).1 (moreN ((leadN c).1 - 1) (leadN c).2 r) := rfl
  rw [hd]
  by_cases h0 : (leadN c).1 = 0
  ·rw [if_pos h0]
   exact ⟨1, rfl, by decide, by decide, by simp, fun _ => rfl⟩
  ·rw [if_neg h0]
   cases hm : moreN ((leadN c).1 - 1) (leadN c).2 r with
   | none => exact ⟨1, rfl, by decide, by decide, by simp, fun _ => rfl⟩
   | some y =>
    unfold fitN
    simp only []
    split
    ·have := lead_le c
     refine ⟨(leadN c).1, rfl, by omega, this, ?_, ?_⟩
     ·rcases Nat.lt_or_ge r.length ((leadN c).1 - 1) with hlt | hge
      ·rw [moreN_none _ _ _ hlt] at hm; cases hm
      ·simp; omega
     ·intro hneg
      simp at hneg
      omega
    ·exact ⟨1, rfl, by decide, by decide, by simp, fun _ => rfl⟩
def vld : Nat → List Nat → Bool
 | _, [] => true
 | 0, _ => false
 | n + 1, s => if (dec s).1 < 0 then false else vld n (s.drop (dec s).2.toNat)
theorem drop_lt {s : List Nat} {i : Nat} (h : i < s.length) : s.drop i ≠ [] := by
 intro e
 have := congrArg List.length e
 simp at this
 omega
theorem valid_l18 {k : Nat} (hk : 6 ≤ k) {s : List Nat} (hs : ∀ b ∈ s, b < 256) (hl : s.length ≤ 140737488351232) : ∀ (d m i : Nat), s.length ≤ i + d → i ≤ s.length → g18_l1 k s (d + 1 + m) (i : Int) = some (vld d (s.drop i)) := by
 intro d
 induction d with
 | zero =>
  intro m i h1 h2
  have e : s.drop i = [] := List.drop_eq_nil_of_le (by omega)
  rw [show 0 + 1 + m = m + 1 from by omega, g18_l1_s, e, decide_eq_false (show ¬ (i : Int) < (s.length : Int) by omega)]
  rfl
 | succ d ih =>
  intro m i h1 h2
  rw [show d + 1 + 1 + m = (d + 1 + m) + 1 from by omega, g18_l1_s]
  by_cases hi : i < s.length
  ·rw [decide_eq_true (show (i : Int) < (s.length : Int) by omega)]
   obtain ⟨c, r, hc, -, -⟩ := drop_cons hi
   obtain ⟨n, n1, n2, n3, n4, n5⟩ := dec_size (drop_lt hi)
   rw [List.length_drop] at n4
   have b1 : s.length ≤ i + n + d := by clear n1; omega
   have b2 : i + n ≤ s.length := by clear n1; omega
   simp only [next_at hk hs hl, Option.bind_some, if_true]
   have hv : vld (d + 1) (s.drop i) = if (dec (s.drop i)).1 < 0 then false else vld d ((s.drop i).drop (dec (s.drop i)).2.toNat) := by
    rw [hc]; rfl
   rw [hv]
   by_cases hneg : (dec (s.drop i)).1 < 0
   ·rw [decide_eq_true hneg, if_pos hneg]
    rfl
   ·rw [decide_eq_false hneg, if_neg hneg, n1, List.drop_drop]
    have e3 : fW .i64 ((i : Int) + (n : Int)) = ((i + n : Nat) : Int) := by
     have : (i : Int) + (n : Int) = ((i + n : Nat) : Int) := by omega
     rw [this, fwn _ (by omega)]
    rw [e3]
    exact ih m (i + n) b1 b2
  ·have e : s.drop i = [] := List.drop_eq_nil_of_le (by omega)
   rw [e, decide_eq_false (show ¬ (i : Int) < (s.length : Int) by omega)]
   rfl
theorem valid_at18 {k : Nat} {s : List Nat} (hk : s.length + 6 ≤ k) (hs : ∀ b ∈ s, b < 256) (hl : s.length ≤ 140737488351232) : g18 k s = some (vld s.length s) := by
 have h := valid_l18 (k := k) (by omega) hs hl s.length (k - (s.length + 1)) 0 (by omega) (by omega)
 rw [show s.length + 1 + (k - (s.length + 1)) = k from by omega] at h
 exact h
theorem valid_l19 {k : Nat} (hk : 6 ≤ k) {s : List Nat} (hs : ∀ b ∈ s, b < 256) (hl : s.length ≤ 140737488351232) : ∀ (d m i : Nat), s.length ≤ i + d → i ≤ s.length → g19_l1 k s (d + 1 + m) (i : Int) = some (vld d (s.drop i)) := by
 intro d
 induction d with
 | zero =>
  intro m i h1 h2
  have e : s.drop i = [] := List.drop_eq_nil_of_le (by omega)
  rw [show 0 + 1 + m = m + 1 from by omega, g19_l1_s, e, decide_eq_false (show ¬ (i : Int) < (s.length : Int) by omega)]
  rfl
 | succ d ih =>
  intro m i h1 h2
  rw [show d + 1 + 1 + m = (d + 1 + m) + 1 from by omega, g19_l1_s]
  by_cases hi : i < s.length
  ·rw [decide_eq_true (show (i : Int) < (s.length : Int) by omega)]
   obtain ⟨c, r, hc, -, -⟩ := drop_cons hi
   obtain ⟨n, n1, n2, n3, n4, n5⟩ := dec_size (drop_lt hi)
   rw [List.length_drop] at n4
   have b1 : s.length ≤ i + n + d := by clear n1; omega
   have b2 : i + n ≤ s.length := by clear n1; omega
   simp only [rnext_at hk hs hl, Option.bind_some, if_true]
   have hv : vld (d + 1) (s.drop i) = if (dec (s.drop i)).1 < 0 then false else vld d ((s.drop i).drop (dec (s.drop i)).2.toNat) := by
    rw [hc]; rfl
   rw [hv]
   by_cases hneg : (dec (s.drop i)).1 < 0
   ·rw [decide_eq_true hneg, if_pos hneg]
    rfl
   ·rw [decide_eq_false hneg, if_neg hneg, n1, List.drop_drop]
    have e3 : fW .i64 ((i : Int) + (n : Int)) = ((i + n : Nat) : Int) := by
     have : (i : Int) + (n : Int) = ((i + n : Nat) : Int) := by omega
     rw [this, fwn _ (by omega)]
    rw [e3]
    exact ih m (i + n) b1 b2
  ·have e : s.drop i = [] := List.drop_eq_nil_of_le (by omega)
   rw [e, decide_eq_false (show ¬ (i : Int) < (s.length : Int) by omega)]
   rfl
theorem valid_at19 {k : Nat} {s : List Nat} (hk : s.length + 6 ≤ k) (hs : ∀ b ∈ s, b < 256) (hl : s.length ≤ 140737488351232) : g19 k s = some (vld s.length s) := by
 have h := valid_l19 (k := k) (by omega) hs hl s.length (k - (s.length + 1)) 0 (by omega) (by omega)
 rw [show s.length + 1 + (k - (s.length + 1)) = k from by omega] at h
 exact h
end Go.Proofs.Ytokcjgjgojlhbaa.Am
set_option maxRecDepth 100000
set_option linter.unusedVariables false
namespace Go.Proofs.Ytokcjgjgojlhbaa.Am
noncomputable section
open Go
def X67 : Fx (List Nat) := ⟨Try.prog, cx, Try.f67, fun r => .str r, 0, fun _ => H0, cxTi, cxOrd⟩
def g67p0 : Pt := nav [0] (bodyAt Try.f67)
def g67p1 : Pt := nav [0, 0, 0, 0] g67p0
def g67p2 : Pt := nav [0, 0] g67p1
def g67p4 : Pt := nav [2, 0, 0] g67p2
def g67p6 : Pt := nav [0, 0, 0, 0, 0] g67p4
def g67p7 : Pt := nav [0, 0, 0] g67p6
def g67p8 : Pt := nav [0, 0] g67p7
def g67p10 : Pt := nav [2, 0, 0, 0] g67p8
def g67p11 : Pt := nav [0, 0] g67p10
def g67p12 : Pt := nav [1, 0] g67p11
def g67p13 : Pt := nav [2, 0, 0] g67p11
def g67p14 : Pt := nav [0, 0, 0, 0] g67p13
def g67p15 : Pt := nav [0, 0, 0, 0] g67p14
def g67p16 : Pt := nav [0, 0, 0] g67p15
def g67p17 : Pt := nav [0, 0] g67p16
def g67p18 : Pt := nav [1, 0, 0, 0, 0] g67p17
def g67p19 : Pt := nav [2, 0, 0] g67p17
def g67p20 : Pt := nav [0, 0] g67p18
def g67p21 : Pt := nav [0, 0, 0] g67p19
def g67_l9 (k : Nat)  (z8 : Int × Bool) (n : Nat) : Int → Int → (List Int) → Option (List Nat) :=
 Nat.rec (motive := fun _ => Int → Int → (List Int) → Option (List Nat)) (fun _ _ _ => none) (fun _ ih => fun (y9_0 : Int) (y9_1 : Int) (y9_2 : (List Int)) => if (decide (0 < y9_1)) then ((idxO y9_2 y9_1).bind fun x4_6 => (setO y9_2 x4_6 (orI .u8 (andI .u8 (fW .u8 y9_0) 63) 128)).bind fun x4_7 => ih (shrC y9_0 6) (fW .i64 (y9_1 - 1)) x4_7) else ((shlS .u8 255 (fW .i64 (8 - z8.1))).bind fun x5_5 => (idxO y9_2 0).bind fun x5_7 => (setO y9_2 x5_7 (orI .u8 (fW .u8 y9_0) x5_5)).bind fun x5_8 => (toS x5_8).bind fun x6_1 => some x6_1)) n
theorem g67_l9_s (k : Nat)  (z8 : Int × Bool) (n : Nat) (y9_0 : Int) (y9_1 : Int) (y9_2 : (List Int)) : g67_l9 k z8 (n + 1) y9_0 y9_1 y9_2 = (if (decide (0 < y9_1)) then ((idxO y9_2 y9_1).bind fun x4_6 => (setO y9_2 x4_6 (orI .u8 (andI .u8 (fW .u8 y9_0) 63) 128)).bind fun x4_7 => (g67_l9 k z8 n) (shrC y9_0 6) (fW .i64 (y9_1 - 1)) x4_7) else ((shlS .u8 255 (fW .i64 (8 - z8.1))).bind fun x5_5 => (idxO y9_2 0).bind fun x5_7 => (setO y9_2 x5_7 (orI .u8 (fW .u8 y9_0) x5_5)).bind fun x5_8 => (toS x5_8).bind fun x6_1 => some x6_1)) := rfl
theorem g67_l9_ok (k : Nat)  (z8 : Int × Bool)  : ∀ (n : Nat) (y9_0 : Int) (y9_1 : Int) (y9_2 : (List Int)), Ok X67 g67p15 [(0, .int .i64 y9_0), (3, .int .i64 z8.1), (4, .own 0 (y9_2).length 1), (5, .int .i64 y9_1)] (mkH [⟨(y9_2).flatMap e5, (y9_2).length * 1, false⟩]) (g67_l9 k z8 n y9_0 y9_1 y9_2)
 | 0, _, _, _ => ok_none
 | n + 1, y9_0, y9_1, y9_2 => by
  have ih := g67_l9_ok k z8 n
  rw [g67_l9_s]
  refine ok_ent (p' := nav [0] g67p15) (by kernel_rfl) ?_
  let E8 : Env := [(31, .bool (decide (0 < y9_1))), (30, .int .i64 y9_1), (0, .int .i64 y9_0), (3, .int .i64 z8.1), (4, .own 0 (y9_2).length 1), (5, .int .i64 y9_1)]
  refine oR 6 (p' := g67p17) (eE := E8) (H' := (mkH [⟨(y9_2).flatMap e5, (y9_2).length * 1, false⟩])) (by kernel_rfl) ?_
  refine oS 31 (b := decide (0 < y9_1)) (by kernel_rfl) (fun hb => ?_) (fun hb => ?_)
  ·let E9 : Env := ((39, .int .u8 (orI .u8 (andI .u8 (fW .u8 y9_0) 63) 128)) :: (38, .int .u8 (andI .u8 (fW .u8 y9_0) 63)) :: (37, .int .u8 (fW .u8 y9_0)) :: (36, .int .i64 y9_0) :: (35, .int .i64 y9_1) :: (34, .own 0 (y9_2).length 1) :: (31, .bool true) :: E8)
   refine oR 12 (p' := (atN 6 (ctl1 g67p18))) (eE := E9) (H' := (mkH [⟨(y9_2).flatMap e5, (y9_2).length * 1, false⟩])) (by kernel_rfl) ?_
   refine oH (fun (x4_6 : Nat) => (.ptr 0 ((y9_2).length * 1) (x4_6 * 1), (mkH [⟨(y9_2).flatMap e5, (y9_2).length * 1, false⟩]))) (atN 7 (ctl1 g67p18)) (fun x4_6 => ((40, .ptr 0 ((y9_2).length * 1) (x4_6 * 1)) :: E9)) (oidxH (sz := 1) (by kernel_rfl)) (fun _ => by kernel_rfl) (fun x4_6 hx4_6 => ?_)
   refine oH (fun (x4_7 : (List Int)) => (.top, (mkH [⟨(x4_7).flatMap e5, (x4_7).length * 1, false⟩]))) (atN 8 (ctl1 g67p18)) (fun x4_7 => ((40, .ptr 0 ((y9_2).length * 1) (x4_6 * 1)) :: E9)) (storeH (v := v5) (fun _ => rfl) (fun _ => rfl) [⟨(y9_2).flatMap e5, (y9_2).length * 1, false⟩] 0 (orI .u8 (andI .u8 (fW .u8 y9_0) 63) 128) rfl rfl (by kernel_rfl)) (fun _ => by kernel_rfl) (fun x4_7 hx4_7 => ?_)
   refine oE (eE := [(40, .ptr 0 ((y9_2).length * 1) (x4_6 * 1)), (39, .int .u8 (orI .u8 (andI .u8 (fW .u8 y9_0) 63) 128)), (38, .int .u8 (andI .u8 (fW .u8 y9_0) 63)), (37, .int .u8 (fW .u8 y9_0)), (36, .int .i64 y9_0), (35, .int .i64 y9_1), (34, .own 0 (x4_7).length 1), (31, .bool true), (31, .bool (decide (0 < y9_1))), (30, .int .i64 y9_1), (0, .int .i64 y9_0), (3, .int .i64 z8.1), (4, .own 0 (x4_7).length 1), (5, .int .i64 y9_1)]) (by rw [setO_len hx4_7]) ?_
   let E10 : Env := [(40, .ptr 0 ((y9_2).length * 1) (x4_6 * 1)), (39, .int .u8 (orI .u8 (andI .u8 (fW .u8 y9_0) 63) 128)), (38, .int .u8 (andI .u8 (fW .u8 y9_0) 63)), (37, .int .u8 (fW .u8 y9_0)), (36, .int .i64 y9_0), (35, .int .i64 y9_1), (34, .own 0 (x4_7).length 1), (31, .bool true), (31, .bool (decide (0 < y9_1))), (30, .int .i64 y9_1), (0, .int .i64 y9_0), (3, .int .i64 z8.1), (4, .own 0 (x4_7).length 1), (5, .int .i64 y9_1)]
   refine oR 1 (p' := g67p20) (eE := E10) (H' := (mkH [⟨(x4_7).flatMap e5, (x4_7).length * 1, false⟩])) (by kernel_rfl) ?_
   refine oK [0, 3, 4, 5] (eE := [(0, .int .i64 y9_0), (3, .int .i64 z8.1), (4, .own 0 (x4_7).length 1), (5, .int .i64 y9_1)]) (by kernel_rfl) ?_
   let E11 : Env := [(5, .int .i64 (fW .i64 (y9_1 - 1))), (33, .int .i64 (fW .i64 (y9_1 - 1))), (32, .int .i64 y9_1), (0, .int .i64 (shrC y9_0 6)), (42, .int .i64 (shrC y9_0 6)), (41, .int .i64 y9_0), (0, .int .i64 y9_0), (3, .int .i64 z8.1), (4, .own 0 (x4_7).length 1), (5, .int .i64 y9_1)]
   refine oR 10 (p' := g67p15) (eE := E11) (H' := (mkH [⟨(x4_7).flatMap e5, (x4_7).length * 1, false⟩])) (by kernel_rfl) ?_
   refine oK [0, 3, 4, 5] (eE := [(0, .int .i64 (shrC y9_0 6)), (3, .int .i64 z8.1), (4, .own 0 (x4_7).length 1), (5, .int .i64 (fW .i64 (y9_1 - 1)))]) (by kernel_rfl) ?_
   exact ih (shrC y9_0 6) (fW .i64 (y9_1 - 1)) x4_7
  ·let E12 : Env := ((47, .int .i64 (fW .i64 (8 - z8.1))) :: (46, .int .i64 z8.1) :: (45, .int .u8 (fW .u8 y9_0)) :: (44, .int .i64 y9_0) :: (43, .own 0 (y9_2).length 1) :: (31, .bool false) :: E8)
   refine oR 9 (p' := (atN 5 (ctl1 g67p19))) (eE := E12) (H' := (mkH [⟨(y9_2).flatMap e5, (y9_2).length * 1, false⟩])) (by kernel_rfl) ?_
   refine oH (fun (x5_5 : Int) => (.int .u8 x5_5, (mkH [⟨(y9_2).flatMap e5, (y9_2).length * 1, false⟩]))) (atN 6 (ctl1 g67p19)) (fun x5_5 => ((48, .int .u8 x5_5) :: E12)) (shlH (by kernel_rfl)) (fun _ => by kernel_rfl) (fun x5_5 hx5_5 => ?_)
   refine oR 1 (p' := (atN 7 (ctl1 g67p19))) (eE := ((49, .int .u8 (orI .u8 (fW .u8 y9_0) x5_5)) :: (48, .int .u8 x5_5) :: E12)) (H' := (mkH [⟨(y9_2).flatMap e5, (y9_2).length * 1, false⟩])) (by kernel_rfl) ?_
   refine oH (fun (x5_7 : Nat) => (.ptr 0 ((y9_2).length * 1) (x5_7 * 1), (mkH [⟨(y9_2).flatMap e5, (y9_2).length * 1, false⟩]))) (atN 8 (ctl1 g67p19)) (fun x5_7 => ((50, .ptr 0 ((y9_2).length * 1) (x5_7 * 1)) :: (49, .int .u8 (orI .u8 (fW .u8 y9_0) x5_5)) :: (48, .int .u8 x5_5) :: E12)) (oidxH (sz := 1) (by kernel_rfl)) (fun _ => by kernel_rfl) (fun x5_7 hx5_7 => ?_)
   refine oH (fun (x5_8 : (List Int)) => (.top, (mkH [⟨(x5_8).flatMap e5, (x5_8).length * 1, false⟩]))) (atN 9 (ctl1 g67p19)) (fun x5_8 => ((50, .ptr 0 ((y9_2).length * 1) (x5_7 * 1)) :: (49, .int .u8 (orI .u8 (fW .u8 y9_0) x5_5)) :: (48, .int .u8 x5_5) :: E12)) (storeH (v := v5) (fun _ => rfl) (fun _ => rfl) [⟨(y9_2).flatMap e5, (y9_2).length * 1, false⟩] 0 (orI .u8 (fW .u8 y9_0) x5_5) rfl rfl (by kernel_rfl)) (fun _ => by kernel_rfl) (fun x5_8 hx5_8 => ?_)
   refine oE (eE := [(50, .ptr 0 ((y9_2).length * 1) (x5_7 * 1)), (49, .int .u8 (orI .u8 (fW .u8 y9_0) x5_5)), (48, .int .u8 x5_5), (47, .int .i64 (fW .i64 (8 - z8.1))), (46, .int .i64 z8.1), (45, .int .u8 (fW .u8 y9_0)), (44, .int .i64 y9_0), (43, .own 0 (x5_8).length 1), (31, .bool false), (31, .bool (decide (0 < y9_1))), (30, .int .i64 y9_1), (0, .int .i64 y9_0), (3, .int .i64 z8.1), (4, .own 0 (x5_8).length 1), (5, .int .i64 y9_1)]) (by rw [setO_len hx5_8]) ?_
   let E13 : Env := [(50, .ptr 0 ((y9_2).length * 1) (x5_7 * 1)), (49, .int .u8 (orI .u8 (fW .u8 y9_0) x5_5)), (48, .int .u8 x5_5), (47, .int .i64 (fW .i64 (8 - z8.1))), (46, .int .i64 z8.1), (45, .int .u8 (fW .u8 y9_0)), (44, .int .i64 y9_0), (43, .own 0 (x5_8).length 1), (31, .bool false), (31, .bool (decide (0 < y9_1))), (30, .int .i64 y9_1), (0, .int .i64 y9_0), (3, .int .i64 z8.1), (4, .own 0 (x5_8).length 1), (5, .int .i64 y9_1)]
   refine oR 2 (p' := g67p21) (eE := E13) (H' := (mkH [⟨(x5_8).flatMap e5, (x5_8).length * 1, false⟩])) (by kernel_rfl) ?_
   refine oK [4] (eE := [(4, .own 0 (x5_8).length 1)]) (by kernel_rfl) ?_
   refine oR 2 (p' := (atN 1 (ctl1 g67p21))) (eE := [(51, .own 0 (x5_8).length 1), (4, .own 0 (x5_8).length 1)]) (H' := (mkH [⟨(x5_8).flatMap e5, (x5_8).length * 1, false⟩])) (by kernel_rfl) ?_
   refine oH (fun (x6_1 : (List Nat)) => (.str x6_1, (mkH [⟨(x5_8).flatMap e5, (x5_8).length * 1, false⟩]))) (atN 2 (ctl1 g67p21)) (fun x6_1 => [(52, .str x6_1), (51, .own 0 (x5_8).length 1), (4, .own 0 (x5_8).length 1)]) (toSO (fun _ => rfl) [⟨(x5_8).flatMap e5, (x5_8).length * 1, false⟩] 0 (x5_8.length * 1) rfl rfl (Nat.le_refl _) (by kernel_rfl)) (fun _ => by kernel_rfl) (fun x6_1 hx6_1 => ?_)
   refine oR 3 (p' := .fin) (eE := [(2, .str x6_1), (52, .str x6_1), (51, .own 0 (x5_8).length 1), (4, .own 0 (x5_8).length 1)]) (H' := (mkH [⟨(x5_8).flatMap e5, (x5_8).length * 1, false⟩])) (by kernel_rfl) ?_
   exact oT (r := x6_1) (xs := [.str x6_1]) (v := .str x6_1) (by kernel_rfl) (by kernel_rfl) (by kernel_rfl) (.pures (by kernel_rfl)) (by kernel_rfl)
def g67_l7 (k : Nat)  (a0 : Int) (n : Nat) : Int → Option (List Nat) :=
 Nat.rec (motive := fun _ => Int → Option (List Nat)) (fun _ => none) (fun _ ih => fun (y7_0 : Int) => jn (fun (z8 : Int × Bool) => if z8.2 then (ih (fW .i64 (z8.1 + 1))) else (if (decide (z8.1 = 1)) then ((toS ([fW .u8 a0] : List Int)).bind fun x2_3 => some x2_3) else ((mkS (0 : Int) 1 z8.1).bind fun x3_1 => g67_l9 k z8 k a0 (fW .i64 (z8.1 - 1)) x3_1))) (fun j8 => if (decide (y7_0 < 4)) then ((g48 k (fW .i64 (y7_0 + 1))).bind fun x1_6 => j8 (y7_0, decide (x1_6 ≤ a0))) else (j8 (y7_0, false)))) n
theorem g67_l7_s (k : Nat)  (a0 : Int) (n : Nat) (y7_0 : Int) : g67_l7 k a0 (n + 1) y7_0 = (jn (fun (z8 : Int × Bool) => if z8.2 then ((g67_l7 k a0 n) (fW .i64 (z8.1 + 1))) else (if (decide (z8.1 = 1)) then ((toS ([fW .u8 a0] : List Int)).bind fun x2_3 => some x2_3) else ((mkS (0 : Int) 1 z8.1).bind fun x3_1 => g67_l9 k z8 k a0 (fW .i64 (z8.1 - 1)) x3_1))) (fun j8 => if (decide (y7_0 < 4)) then ((g48 k (fW .i64 (y7_0 + 1))).bind fun x1_6 => j8 (y7_0, decide (x1_6 ≤ a0))) else (j8 (y7_0, false)))) := rfl
theorem g67_l7_ok (k : Nat)  (a0 : Int)  : ∀ (n : Nat) (y7_0 : Int), Ok X67 g67p6 [(0, .int .i64 a0), (3, .int .i64 y7_0)] (mkH []) (g67_l7 k a0 n y7_0)
 | 0, _ => ok_none
 | n + 1, y7_0 => by
  have ih := g67_l7_ok k a0 n
  rw [g67_l7_s]
  refine ok_ent (p' := nav [0] g67p6) (by kernel_rfl) ?_
  let E2 : Env := [(11, .bool (decide (y7_0 < 4))), (10, .bool (decide (y7_0 < 4))), (9, .int .i64 y7_0), (0, .int .i64 a0), (3, .int .i64 y7_0)]
  refine oR 6 (p' := (atN 3 (ctl1 g67p7))) (eE := E2) (H' := (mkH [])) (by kernel_rfl) ?_
  refine oJ (f := fun (z8 : Int × Bool) => if z8.2 then ((g67_l7 k a0 n) (fW .i64 (z8.1 + 1))) else (if (decide (z8.1 = 1)) then ((toS ([fW .u8 a0] : List Int)).bind fun x2_3 => some x2_3) else ((mkS (0 : Int) 1 z8.1).bind fun x3_1 => g67_l9 k z8 k a0 (fW .i64 (z8.1 - 1)) x3_1))) g67p8 (fun (z8 : Int × Bool) => [(0, .int .i64 a0), (3, .int .i64 z8.1), (17, .bool z8.2)]) (fun (z8 : Int × Bool) => (mkH [])) (fun z8 => ?_) (fun j8 hj8 => ?_)
  ·refine oS 17 (b := z8.2) (by kernel_rfl) (fun hb => ?_) (fun hb => ?_)
   ·let E3 : Env := [(3, .int .i64 (fW .i64 (z8.1 + 1))), (19, .int .i64 (fW .i64 (z8.1 + 1))), (18, .int .i64 z8.1), (17, .bool true), (0, .int .i64 a0), (3, .int .i64 z8.1), (17, .bool z8.2)]
    refine oR 8 (p' := g67p6) (eE := E3) (H' := (mkH [])) (by kernel_rfl) ?_
    refine oK [0, 3] (eE := [(0, .int .i64 a0), (3, .int .i64 (fW .i64 (z8.1 + 1)))]) (by kernel_rfl) ?_
    exact ih (fW .i64 (z8.1 + 1))
   ·let E4 : Env := [(21, .bool (decide (z8.1 = 1))), (20, .int .i64 z8.1), (17, .bool false), (0, .int .i64 a0), (3, .int .i64 z8.1), (17, .bool z8.2)]
    refine oR 8 (p' := g67p11) (eE := E4) (H' := (mkH [])) (by kernel_rfl) ?_
    refine oS 21 (b := decide (z8.1 = 1)) (by kernel_rfl) (fun hb => ?_) (fun hb => ?_)
    ·refine oR 6 (p' := (atN 3 (ctl1 g67p12))) (eE := ((24, .slice 0 1 0 1 1) :: (23, .int .u8 (fW .u8 a0)) :: (22, .int .i64 a0) :: (21, .bool true) :: E4)) (H' := (mkH [⟨[.int .u8 (fW .u8 a0)], 0, false⟩])) (by kernel_rfl) ?_
     refine oH (fun (x2_3 : (List Nat)) => (.str x2_3, (mkH [⟨[.int .u8 (fW .u8 a0)], 0, false⟩]))) (atN 4 (ctl1 g67p12)) (fun x2_3 => ((25, .str x2_3) :: (24, .slice 0 1 0 1 1) :: (23, .int .u8 (fW .u8 a0)) :: (22, .int .i64 a0) :: (21, .bool true) :: E4)) (toSE [fW .u8 a0] (by kernel_rfl)) (fun _ => by kernel_rfl) (fun x2_3 hx2_3 => ?_)
     let E5 : Env := ((2, .str x2_3) :: (25, .str x2_3) :: (24, .slice 0 1 0 1 1) :: (23, .int .u8 (fW .u8 a0)) :: (22, .int .i64 a0) :: (21, .bool true) :: E4)
     refine oR 3 (p' := .fin) (eE := E5) (H' := (mkH [⟨[.int .u8 (fW .u8 a0)], 0, false⟩])) (by kernel_rfl) ?_
     exact oT (r := x2_3) (xs := [.str x2_3]) (v := .str x2_3) (by kernel_rfl) (by kernel_rfl) (by kernel_rfl) (.pures (by kernel_rfl)) (by kernel_rfl)
    ·refine oR 5 (p' := (atN 1 (ctl1 g67p13))) (eE := ((26, .int .i64 z8.1) :: (21, .bool false) :: E4)) (H' := (mkH [])) (by kernel_rfl) ?_
     refine oH (fun (x3_1 : (List Int)) => (.slice 0 ((x3_1).flatMap e5).length 0 (x3_1).length 1, (mkH [⟨(x3_1).flatMap e5, 0, false⟩]))) (atN 2 (ctl1 g67p13)) (fun x3_1 => ((27, .slice 0 ((x3_1).flatMap e5).length 0 (x3_1).length 1) :: (26, .int .i64 z8.1) :: (21, .bool false) :: E4)) (makeH (sz := 1) e5_len rfl (0 : Int) [] 1 rfl (by kernel_rfl)) (fun _ => by kernel_rfl) (fun x3_1 hx3_1 => ?_)
     refine ok_sown 27 0 ((x3_1).flatMap e5).length (x3_1).length 1 (by kernel_rfl) (flatMap_len e5_len _) ?_
     refine oE (eE := [(27, .own 0 (x3_1).length 1), (27, .slice 0 ((x3_1).flatMap e5).length 0 (x3_1).length 1), (26, .int .i64 z8.1), (21, .bool false), (21, .bool (decide (z8.1 = 1))), (20, .int .i64 z8.1), (17, .bool false), (0, .int .i64 a0), (3, .int .i64 z8.1), (17, .bool z8.2)]) (by kernel_rfl) ?_
     refine ok_minv [⟨(x3_1).flatMap e5, 0, false⟩] 0 ((x3_1).flatMap e5) 0 ((x3_1).length * 1) rfl rfl (Nat.zero_le _) ?_
     refine ok_heap (H' := (mkH [⟨(x3_1).flatMap e5, (x3_1).length * 1, false⟩])) (by kernel_rfl) ?_
     let E6 : Env := ((4, .own 0 (x3_1).length 1) :: (27, .own 0 (x3_1).length 1) :: (27, .slice 0 ((x3_1).flatMap e5).length 0 (x3_1).length 1) :: (26, .int .i64 z8.1) :: (21, .bool false) :: E4)
     refine oR 4 (p' := g67p14) (eE := E6) (H' := (mkH [⟨(x3_1).flatMap e5, (x3_1).length * 1, false⟩])) (by kernel_rfl) ?_
     refine oK [0, 3, 4] (eE := [(0, .int .i64 a0), (3, .int .i64 z8.1), (4, .own 0 (x3_1).length 1)]) (by kernel_rfl) ?_
     let E7 : Env := [(5, .int .i64 (fW .i64 (z8.1 - 1))), (29, .int .i64 (fW .i64 (z8.1 - 1))), (28, .int .i64 z8.1), (0, .int .i64 a0), (3, .int .i64 z8.1), (4, .own 0 (x3_1).length 1)]
     refine oR 7 (p' := g67p15) (eE := E7) (H' := (mkH [⟨(x3_1).flatMap e5, (x3_1).length * 1, false⟩])) (by kernel_rfl) ?_
     refine oK [0, 3, 4, 5] (eE := [(0, .int .i64 a0), (3, .int .i64 z8.1), (4, .own 0 (x3_1).length 1), (5, .int .i64 (fW .i64 (z8.1 - 1)))]) (by kernel_rfl) ?_
     exact (g67_l9_ok k z8 k) a0 (fW .i64 (z8.1 - 1)) x3_1
  ·refine oS 11 (b := decide (y7_0 < 4)) (by kernel_rfl) (fun hb => ?_) (fun hb => ?_)
   ·refine oR 3 (p' := (atN 6 (ctl1 g67p7))) (eE := ((14, .int .i64 (fW .i64 (y7_0 + 1))) :: (13, .int .i64 y7_0) :: (12, .int .i64 a0) :: (11, .bool true) :: E2)) (H' := (mkH [])) (by kernel_rfl) ?_
    refine oC (fun (x1_6 : Int) => .int .i64 x1_6) (atN 7 (ctl1 g67p7)) (fun x1_6 => ((15, .int .i64 x1_6) :: (14, .int .i64 (fW .i64 (y7_0 + 1))) :: (13, .int .i64 y7_0) :: (12, .int .i64 a0) :: (11, .bool true) :: E2)) (fi := 48) (args := [.int .i64 (fW .i64 (y7_0 + 1))]) (by kernel_rfl) (by kernel_rfl) (fun _ => by kernel_rfl) (fun r h => g48_ok k (fW .i64 (y7_0 + 1)) r h) (fun _ => by kernel_rfl) (fun x1_6 hx1_6 => ?_)
    let E14 : Env := ((17, .bool (decide (x1_6 ≤ a0))) :: (16, .bool (decide (x1_6 ≤ a0))) :: (15, .int .i64 x1_6) :: (14, .int .i64 (fW .i64 (y7_0 + 1))) :: (13, .int .i64 y7_0) :: (12, .int .i64 a0) :: (11, .bool true) :: E2)
    refine oR 3 (p' := g67p8) (eE := E14) (H' := (mkH [])) (by kernel_rfl) ?_
    refine oK [0, 3, 17] (eE := [(0, .int .i64 a0), (3, .int .i64 y7_0), (17, .bool (decide (x1_6 ≤ a0)))]) (by kernel_rfl) ?_
    exact hj8 (y7_0, decide (x1_6 ≤ a0))
   ·let E15 : Env := ((17, .bool false) :: (16, .tuple []) :: (15, .tuple []) :: (14, .tuple []) :: (13, .tuple []) :: (12, .tuple []) :: (11, .bool false) :: E2)
    refine oR 7 (p' := g67p8) (eE := E15) (H' := (mkH [])) (by kernel_rfl) ?_
    refine oK [0, 3, 17] (eE := [(0, .int .i64 a0), (3, .int .i64 y7_0), (17, .bool false)]) (by kernel_rfl) ?_
    exact hj8 (y7_0, false)
def g67 (k : Nat) (a0 : Int) : Option (List Nat) :=
 (g49 k a0).bind fun x0_1 => if (!x0_1) then (some ([] : List Nat)) else (g67_l7 k a0 k 1)
theorem g67_ok (k : Nat) (a0 : Int) (r : (List Nat)) (h : g67 k a0 = some r) : PureOk Try.prog 67 [.int .i64 a0] (.str r) := by
 refine pure_of X67 (fun _ => rfl) Try.func67 (by decide +kernel) (by kernel_rfl) (t := g67 k a0) ?_ h
 unfold g67
 refine oE (eE := [(0, .int .i64 a0)]) (by kernel_rfl) ?_
 refine oR 8 (p' := (atN 1 (ctl1 g67p1))) (eE := [(6, .int .i64 a0), (2, .str []), (0, .int .i64 a0)]) (H' := (mkH [])) (by kernel_rfl) ?_
 refine oC (fun (x0_1 : Bool) => .bool x0_1) (atN 2 (ctl1 g67p1)) (fun x0_1 => [(7, .bool x0_1), (6, .int .i64 a0), (2, .str []), (0, .int .i64 a0)]) (fi := 49) (args := [.int .i64 a0]) (by kernel_rfl) (by kernel_rfl) (fun _ => by kernel_rfl) (fun r h => g49_ok k a0 r h) (fun _ => by kernel_rfl) (fun x0_1 hx0_1 => ?_)
 let E1 : Env := [(8, .bool (!x0_1)), (7, .bool x0_1), (6, .int .i64 a0), (2, .str []), (0, .int .i64 a0)]
 refine oR 2 (p' := g67p2) (eE := E1) (H' := (mkH [])) (by kernel_rfl) ?_
 refine oS 8 (b := !x0_1) (by kernel_rfl) (fun hb => ?_) (fun hb => ?_)
 ·refine oR 6 (p' := .fin) (eE := ((2, .str []) :: (8, .bool true) :: E1)) (H' := (mkH [])) (by kernel_rfl) ?_
  exact oT (r := ([] : List Nat)) (xs := [.str []]) (v := .str []) (by kernel_rfl) (by kernel_rfl) (by kernel_rfl) (.pures (by kernel_rfl)) (by kernel_rfl)
 ·refine oR 9 (p' := g67p6) (eE := ((3, .int .i64 1) :: (8, .bool false) :: E1)) (H' := (mkH [])) (by kernel_rfl) ?_
  refine oK [0, 3] (eE := [(0, .int .i64 a0), (3, .int .i64 1)]) (by kernel_rfl) ?_
  exact (g67_l7_ok k a0 k) 1
end
end Go.Proofs.Ytokcjgjgojlhbaa.Am
set_option maxRecDepth 100000
set_option linter.unusedVariables false
set_option linter.unusedSimpArgs false
namespace Go.Proofs.Ytokcjgjgojlhbaa.Am
open Go
theorem fwu8 (x : Nat) : fW .u8 (x : Int) = ((x % 256 : Nat) : Int) := by
 rw [fwrap_eq]; simp [IntKind.wrap, IntKind.bits, IntKind.signed]
theorem toS_nat : ∀ l : List Nat, (∀ b ∈ l, b < 256) → toS (l.map fun (b : Nat) => (b : Int)) = some l
 | [], _ => rfl
 | b :: l, h => by
  have hb := h b (by simp)
  simp only [List.map_cons, toS, toS_nat l (fun x hx => h x (by simp [hx]))]
  rw [if_pos (by omega)]
  simp
def orOk (b : Nat) : Bool := decide (orI .u8 (b : Int) 128 = ((128 + b : Nat) : Int)) && decide (orI .u8 128 (b : Int) = ((128 + b : Nat) : Int)) && (decide (32 ≤ b) || decide (orI .u8 (b : Int) 192 = ((192 + b : Nat) : Int)) && decide (orI .u8 192 (b : Int) = ((192 + b : Nat) : Int))) && (decide (16 ≤ b) || decide (orI .u8 (b : Int) 224 = ((224 + b : Nat) : Int)) && decide (orI .u8 224 (b : Int) = ((224 + b : Nat) : Int))) && (decide (8 ≤ b) || decide (orI .u8 (b : Int) 240 = ((240 + b : Nat) : Int)) && decide (orI .u8 240 (b : Int) = ((240 + b : Nat) : Int)))
theorem orOk_all : ((List.range 64).all orOk) = true := by decide +kernel
theorem or_ok {b : Nat} (h : b < 64) : orOk b = true := List.all_eq_true.1 orOk_all b (List.mem_range.2 h)
theorem or128 {b : Nat} (h : b < 64) : orI .u8 (b : Int) 128 = ((128 + b : Nat) : Int) ∧ orI .u8 128 (b : Int) = ((128 + b : Nat) : Int) := by
 have w := or_ok h
 simp only [orOk, Bool.and_eq_true, decide_eq_true_eq] at w
 exact ⟨w.1.1.1.1, w.1.1.1.2⟩
theorem or192 {b : Nat} (h : b < 32) : orI .u8 (b : Int) 192 = ((192 + b : Nat) : Int) ∧ orI .u8 192 (b : Int) = ((192 + b : Nat) : Int) := by
 have w := or_ok (b := b) (by omega)
 simp only [orOk, Bool.and_eq_true, Bool.or_eq_true, decide_eq_true_eq] at w
 rcases w.1.1.2 with h | h
 ·omega
 ·exact h
theorem or224 {b : Nat} (h : b < 16) : orI .u8 (b : Int) 224 = ((224 + b : Nat) : Int) ∧ orI .u8 224 (b : Int) = ((224 + b : Nat) : Int) := by
 have w := or_ok (b := b) (by omega)
 simp only [orOk, Bool.and_eq_true, Bool.or_eq_true, decide_eq_true_eq] at w
 rcases w.1.2 with h | h
 ·omega
 ·exact h
theorem or240 {b : Nat} (h : b < 8) : orI .u8 (b : Int) 240 = ((240 + b : Nat) : Int) ∧ orI .u8 240 (b : Int) = ((240 + b : Nat) : Int) := by
 have w := or_ok (b := b) (by omega)
 simp only [orOk, Bool.and_eq_true, Bool.or_eq_true, decide_eq_true_eq] at w
 rcases w.2 with h | h
 ·omega
 ·exact h
def enc (c : Nat) : List Nat := if c < 128 then [c] else if c < 2048 then [192 + c / 64, 128 + c % 64] else if c < 65536 then [224 + c / 4096, 128 + c / 64 % 64, 128 + c % 64] else [240 + c / 262144, 128 + c / 4096 % 64, 128 + c / 64 % 64, 128 + c % 64]
def put (n : Int) : List Nat := if 0 ≤ n ∧ cpN n.toNat = true then enc n.toNat else []
theorem put_neg {n : Int} (h : n < 0) : put n = [] := by
 unfold put; exact if_neg (fun w => by omega)
theorem put_cp {c : Nat} (h : cpN c = true) : put (c : Int) = enc c := by
 unfold put; rw [Int.toNat_natCast]; exact if_pos ⟨by omega, h⟩
theorem put_no {c : Nat} (h : cpN c = false) : put (c : Int) = [] := by
 unfold put; rw [Int.toNat_natCast]; exact if_neg (fun w => by rw [h] at w; exact absurd w.2 (by decide))
theorem cp_neg {k : Nat} {n : Int} (h : n < 0) : g49 k n = some false ∧ g50 k n = some false := by
 unfold g49 g50
 rw [decide_eq_false (show ¬ (0 : Int) ≤ n by omega)]
 exact ⟨rfl, rfl⟩
theorem cp_le {c : Nat} (h : cpN c = true) : c ≤ 1114111 := by
 unfold cpN at h
 simp at h
 exact h.1
theorem put_b (c : Nat) : orI .u8 (andI .u8 (fW .u8 (c : Int)) 63) 128 = ((128 + c % 64 : Nat) : Int) := by
 rw [fwu8, (byte_ok (b := c % 256) (by omega)).1, (or128 (by omega)).1, show c % 256 % 64 = c % 64 from by omega]
theorem put_at {k : Nat} (hk : 6 ≤ k) (n : Int) : g67 k n = some (put n) := by
 obtain ⟨k, rfl⟩ : ∃ k', k = k' + 6 := ⟨k - 6, by omega⟩
 unfold g67
 by_cases hn : n < 0
 ·rw [put_neg hn, (cp_neg (k := k + 6) hn).1]; rfl
 ·obtain ⟨c, rfl⟩ : ∃ c : Nat, n = (c : Int) := ⟨n.toNat, by omega⟩
  rw [cp_at, Option.bind_some]
  by_cases hcp : cpN c = true
  ·have hle := cp_le hcp
   rw [put_cp hcp, hcp]
   simp only [Bool.not_true, Bool.false_eq_true, if_false]
   have l2 : g48 (k + 6) (fW .i64 (1 + 1)) = some 128 := by rfl
   have l3 : g48 (k + 6) (fW .i64 (2 + 1)) = some 2048 := by rfl
   have l4 : g48 (k + 6) (fW .i64 (3 + 1)) = some 65536 := by rfl
   have f2 : fW .i64 (1 + 1) = 2 := by rfl
   have f3 : fW .i64 (2 + 1) = 3 := by rfl
   have f4 : fW .i64 (3 + 1) = 4 := by rfl
   have m2 : g48 (k + 6) 2 = some 128 := by rfl
   have m3 : g48 (k + 6) 3 = some 2048 := by rfl
   have m4 : g48 (k + 6) 4 = some 65536 := by rfl
   unfold enc
   by_cases h1 : c < 128
   ·rw [if_pos h1, g67_l7_s, decide_eq_true (show (1 : Int) < 4 by decide)]
    simp only [l2, f2, m2, decide_true, Option.bind_some, jn, if_true, decide_eq_false (show ¬ (128 : Int) ≤ (c : Int) by omega), Bool.false_eq_true, if_false]
    rw [fwu8, Nat.mod_eq_of_lt (by omega)]
    have := toS_nat [c] (by intro b hb; simp at hb; omega)
    simp only [List.map_cons, List.map_nil] at this
    rw [this]; rfl
   ·rw [if_neg h1, g67_l7_s, decide_eq_true (show (1 : Int) < 4 by decide)]
    simp only [l2, f2, m2, decide_true, Option.bind_some, jn, if_true, decide_eq_true (show (128 : Int) ≤ (c : Int) by omega), f2]
    rw [g67_l7_s, decide_eq_true (show (2 : Int) < 4 by decide)]
    simp only [l3, f3, m3, decide_true, Option.bind_some, jn, if_true]
    by_cases h2 : c < 2048
    ·rw [if_pos h2, decide_eq_false (show ¬ (2048 : Int) ≤ (c : Int) by omega)]
     simp only [Bool.false_eq_true, if_false, decide_eq_false (show ¬ (2 : Int) = 1 by decide)]
     rw [show mkS (0 : Int) 1 2 = some [0, 0] from by decide, Option.bind_some, show fW .i64 ((2 : Int) - 1) = 1 from rfl, g67_l9_s, decide_eq_true (show (0 : Int) < 1 by decide), put_b, shrC_nat]
     simp only [if_true]
     rw [show (idxO ([0, 0] : List Int) 1) = some 1 from by decide, Option.bind_some]
     rw [show (setO ([0, 0] : List Int) 1 ((128 + c % 64 : Nat) : Int)) = some [0, ((128 + c % 64 : Nat) : Int)] from rfl, Option.bind_some, show fW .i64 ((1 : Int) - 1) = 0 from rfl, g67_l9_s, decide_eq_false (show ¬ (0 : Int) < 0 by decide)]
     simp only [Bool.false_eq_true, if_false]
     rw [show shlS .u8 255 (fW .i64 (8 - (2 : Int))) = some 192 from by decide, Option.bind_some, fwu8, show c / 2 ^ 6 % 256 = c / 64 from by omega, (or192 (by omega)).1]
     have := toS_nat [192 + c / 64, 128 + c % 64] (by intro b hb; simp at hb; omega)
     simp only [List.map_cons, List.map_nil] at this
     show (toS [((192 + c / 64 : Nat) : Int), ((128 + c % 64 : Nat) : Int)]).bind _ = _
     rw [this]; rfl
    ·rw [if_neg h2, decide_eq_true (show (2048 : Int) ≤ (c : Int) by omega)]
     simp only [if_true, f3]
     rw [g67_l7_s, decide_eq_true (show (3 : Int) < 4 by decide)]
     simp only [l4, f4, m4, decide_true, Option.bind_some, jn, if_true]
     by_cases h3 : c < 65536
     ·rw [if_pos h3, decide_eq_false (show ¬ (65536 : Int) ≤ (c : Int) by omega)]
      simp only [Bool.false_eq_true, if_false, decide_eq_false (show ¬ (3 : Int) = 1 by decide)]
      rw [show mkS (0 : Int) 1 3 = some [0, 0, 0] from by decide, Option.bind_some, show fW .i64 ((3 : Int) - 1) = 2 from rfl, g67_l9_s, decide_eq_true (show (0 : Int) < 2 by decide), put_b, shrC_nat]
      simp only [if_true]
      rw [show (idxO ([0, 0, 0] : List Int) 2) = some 2 from by decide, Option.bind_some]
      rw [show (setO ([0, 0, 0] : List Int) 2 ((128 + c % 64 : Nat) : Int)) = some [0, 0, ((128 + c % 64 : Nat) : Int)] from rfl, Option.bind_some, show fW .i64 ((2 : Int) - 1) = 1 from rfl, g67_l9_s, decide_eq_true (show (0 : Int) < 1 by decide), put_b, shrC_nat]
      simp only [if_true]
      rw [show (idxO ([0, 0, ((128 + c % 64 : Nat) : Int)] : List Int) 1) = some 1 from rfl, Option.bind_some]
      rw [show (setO ([0, 0, ((128 + c % 64 : Nat) : Int)] : List Int) 1 ((128 + c / 2 ^ 6 % 64 : Nat) : Int)) = some [0, ((128 + c / 2 ^ 6 % 64 : Nat) : Int), ((128 + c % 64 : Nat) : Int)] from rfl, Option.bind_some, show fW .i64 ((1 : Int) - 1) = 0 from rfl, g67_l9_s, decide_eq_false (show ¬ (0 : Int) < 0 by decide)]
      simp only [Bool.false_eq_true, if_false]
      rw [show shlS .u8 255 (fW .i64 (8 - (3 : Int))) = some 224 from by decide, Option.bind_some, fwu8, show c / 2 ^ 6 / 2 ^ 6 % 256 = c / 4096 from by omega, (or224 (by omega)).1]
      have := toS_nat [224 + c / 4096, 128 + c / 64 % 64, 128 + c % 64] (by intro b hb; simp at hb; omega)
      simp only [List.map_cons, List.map_nil] at this
      show (toS [((224 + c / 4096 : Nat) : Int), ((128 + c / 64 % 64 : Nat) : Int), ((128 + c % 64 : Nat) : Int)]).bind _ = _
      rw [this]; rfl
     ·rw [if_neg h3, decide_eq_true (show (65536 : Int) ≤ (c : Int) by omega)]
      simp only [if_true, f4]
      rw [g67_l7_s, decide_eq_false (show ¬ (4 : Int) < 4 by decide)]
      simp only [jn, Bool.false_eq_true, if_false, decide_eq_false (show ¬ (4 : Int) = 1 by decide)]
      rw [show mkS (0 : Int) 1 4 = some [0, 0, 0, 0] from by decide, Option.bind_some, show fW .i64 ((4 : Int) - 1) = 3 from rfl, g67_l9_s, decide_eq_true (show (0 : Int) < 3 by decide), put_b, shrC_nat]
      simp only [if_true]
      rw [show (idxO ([0, 0, 0, 0] : List Int) 3) = some 3 from by decide, Option.bind_some]
      rw [show (setO ([0, 0, 0, 0] : List Int) 3 ((128 + c % 64 : Nat) : Int)) = some [0, 0, 0, ((128 + c % 64 : Nat) : Int)] from rfl, Option.bind_some, show fW .i64 ((3 : Int) - 1) = 2 from rfl, g67_l9_s, decide_eq_true (show (0 : Int) < 2 by decide), put_b, shrC_nat]
      simp only [if_true]
      rw [show (idxO ([0, 0, 0, ((128 + c % 64 : Nat) : Int)] : List Int) 2) = some 2 from rfl, Option.bind_some]
      rw [show (setO ([0, 0, 0, ((128 + c % 64 : Nat) : Int)] : List Int) 2 ((128 + c / 2 ^ 6 % 64 : Nat) : Int)) = some [0, 0, ((128 + c / 2 ^ 6 % 64 : Nat) : Int), ((128 + c % 64 : Nat) : Int)] from rfl, Option.bind_some, show fW .i64 ((2 : Int) - 1) = 1 from rfl, g67_l9_s, decide_eq_true (show (0 : Int) < 1 by decide), put_b, shrC_nat]
      simp only [if_true]
      rw [show (idxO ([0, 0, ((128 + c / 2 ^ 6 % 64 : Nat) : Int), ((128 + c % 64 : Nat) : Int)] : List Int) 1) = some 1 from rfl, Option.bind_some]
      rw [show (setO ([0, 0, ((128 + c / 2 ^ 6 % 64 : Nat) : Int), ((128 + c % 64 : Nat) : Int)] : List Int) 1 ((128 + c / 2 ^ 6 / 2 ^ 6 % 64 : Nat) : Int)) = some [0, ((128 + c / 2 ^ 6 / 2 ^ 6 % 64 : Nat) : Int), ((128 + c / 2 ^ 6 % 64 : Nat) : Int), ((128 + c % 64 : Nat) : Int)] from rfl, Option.bind_some, show fW .i64 ((1 : Int) - 1) = 0 from rfl, g67_l9_s, decide_eq_false (show ¬ (0 : Int) < 0 by decide)]
      simp only [Bool.false_eq_true, if_false]
      rw [show shlS .u8 255 (fW .i64 (8 - (4 : Int))) = some 240 from by decide, Option.bind_some, fwu8, show c / 2 ^ 6 / 2 ^ 6 / 2 ^ 6 % 256 = c / 262144 from by omega, (or240 (by omega)).1]
      have := toS_nat [240 + c / 262144, 128 + c / 4096 % 64, 128 + c / 64 % 64, 128 + c % 64] (by intro b hb; simp at hb; omega)
      simp only [List.map_cons, List.map_nil] at this
      show (toS [((240 + c / 262144 : Nat) : Int), ((128 + c / 2 ^ 6 / 2 ^ 6 % 64 : Nat) : Int), ((128 + c / 64 % 64 : Nat) : Int), ((128 + c % 64 : Nat) : Int)]).bind _ = _
      rw [show c / 2 ^ 6 / 2 ^ 6 % 64 = c / 4096 % 64 from by omega, this]; rfl
  ·simp at hcp
   rw [put_no hcp, hcp]; rfl
end Go.Proofs.Ytokcjgjgojlhbaa.Am
set_option maxRecDepth 100000
set_option linter.unusedVariables false
namespace Go.Proofs.Ytokcjgjgojlhbaa.Am
noncomputable section
open Go
def X61 : Fx (Int × Int) := ⟨Try.prog, cx, Try.f61, fun r => .tuple [.int .i64 r.1, .int .i64 r.2], 0, fun _ => H0, cxTi, cxOrd⟩
def g61p0 : Pt := nav [0] (bodyAt Try.f61)
def g61p1 : Pt := nav [0, 0, 0] g61p0
def g61p2 : Pt := nav [0, 0, 0, 0] g61p1
def g61p3 : Pt := nav [0, 0] g61p2
def g61p5 : Pt := nav [2, 0, 0] g61p3
def g61p6 : Pt := nav [0, 0, 0, 0, 0] g61p5
def g61p7 : Pt := nav [0, 0, 0] g61p6
def g61p8 : Pt := nav [0, 0] g61p7
def g61p9 : Pt := nav [1, 0, 0, 0] g61p8
def g61p10 : Pt := nav [2, 0, 0] g61p8
def g61p11 : Pt := nav [0, 0] g61p9
def g61p12 : Pt := nav [0, 0, 0, 0] g61p10
def g61p13 : Pt := nav [0, 0] g61p12
def g61_l6 (k : Nat)  (a0 : (List Nat)) (a1 : Int) (z5 : Int × Int × Int) (n : Nat) : Int → Int → Option (Int × Int) :=
 Nat.rec (motive := fun _ => Int → Int → Option (Int × Int)) (fun _ _ => none) (fun _ ih => fun (y6_0 : Int) (y6_1 : Int) => jn (fun (z7 : Bool × Int × Int) => if z7.1 then ((nthS a0 (fW .i64 (z5.1 + z7.2.2))).bind fun x2_6 => (g63 k x2_6).bind fun x2_7 => ih (orI .i64 (shlC .i64 z7.2.1 4) x2_7) (fW .i64 (z7.2.2 + 1))) else (jn (fun (z8 : Int × Int × Bool) => if z8.2.2 then (some (((-1) : Int), (0 : Int))) else (some (z8.1, fW .i64 (fW .i64 (z8.2.1 + z5.2.2) - a1)))) (fun j8 => if (decide (z5.2.2 = 0)) then (if (decide (z7.2.2 < 2)) then (j8 (z7.2.1, fW .i64 (z5.1 + z7.2.2), true)) else (if (decide (z7.2.2 < 1)) then (j8 (z7.2.1, fW .i64 (z5.1 + z7.2.2), true)) else (if (decide (z5.2.2 = 1)) then (if (decide ((a0.length : Int) ≤ fW .i64 (z5.1 + z7.2.2))) then (j8 (z7.2.1, fW .i64 (z5.1 + z7.2.2), true)) else ((nthS a0 (fW .i64 (z5.1 + z7.2.2))).bind fun x3_21 => if (!decide (x3_21 = 125)) then (j8 (z7.2.1, fW .i64 (z5.1 + z7.2.2), true)) else ((g67 k z7.2.1).bind fun x3_28 => j8 (z7.2.1, fW .i64 (z5.1 + z7.2.2), eqL x3_28 [])))) else ((g67 k z7.2.1).bind fun x3_28 => j8 (z7.2.1, fW .i64 (z5.1 + z7.2.2), eqL x3_28 []))))) else (if (decide (z7.2.2 < 1)) then (j8 (z7.2.1, fW .i64 (z5.1 + z7.2.2), true)) else (if (decide (z5.2.2 = 1)) then (if (decide ((a0.length : Int) ≤ fW .i64 (z5.1 + z7.2.2))) then (j8 (z7.2.1, fW .i64 (z5.1 + z7.2.2), true)) else ((nthS a0 (fW .i64 (z5.1 + z7.2.2))).bind fun x3_21 => if (!decide (x3_21 = 125)) then (j8 (z7.2.1, fW .i64 (z5.1 + z7.2.2), true)) else ((g67 k z7.2.1).bind fun x3_28 => j8 (z7.2.1, fW .i64 (z5.1 + z7.2.2), eqL x3_28 [])))) else ((g67 k z7.2.1).bind fun x3_28 => j8 (z7.2.1, fW .i64 (z5.1 + z7.2.2), eqL x3_28 []))))))) (fun j7 => if (decide (y6_1 < z5.2.1)) then (if (decide (fW .i64 (z5.1 + y6_1) < (a0.length : Int))) then ((nthS a0 (fW .i64 (z5.1 + y6_1))).bind fun x1_16 => (g63 k x1_16).bind fun x1_17 => j7 (decide (x1_17 < 16), y6_0, y6_1)) else (j7 (false, y6_0, y6_1))) else (j7 (false, y6_0, y6_1)))) n
theorem g61_l6_s (k : Nat)  (a0 : (List Nat)) (a1 : Int) (z5 : Int × Int × Int) (n : Nat) (y6_0 : Int) (y6_1 : Int) : g61_l6 k a0 a1 z5 (n + 1) y6_0 y6_1 = (jn (fun (z7 : Bool × Int × Int) => if z7.1 then ((nthS a0 (fW .i64 (z5.1 + z7.2.2))).bind fun x2_6 => (g63 k x2_6).bind fun x2_7 => (g61_l6 k a0 a1 z5 n) (orI .i64 (shlC .i64 z7.2.1 4) x2_7) (fW .i64 (z7.2.2 + 1))) else (jn (fun (z8 : Int × Int × Bool) => if z8.2.2 then (some (((-1) : Int), (0 : Int))) else (some (z8.1, fW .i64 (fW .i64 (z8.2.1 + z5.2.2) - a1)))) (fun j8 => if (decide (z5.2.2 = 0)) then (if (decide (z7.2.2 < 2)) then (j8 (z7.2.1, fW .i64 (z5.1 + z7.2.2), true)) else (if (decide (z7.2.2 < 1)) then (j8 (z7.2.1, fW .i64 (z5.1 + z7.2.2), true)) else (if (decide (z5.2.2 = 1)) then (if (decide ((a0.length : Int) ≤ fW .i64 (z5.1 + z7.2.2))) then (j8 (z7.2.1, fW .i64 (z5.1 + z7.2.2), true)) else ((nthS a0 (fW .i64 (z5.1 + z7.2.2))).bind fun x3_21 => if (!decide (x3_21 = 125)) then (j8 (z7.2.1, fW .i64 (z5.1 + z7.2.2), true)) else ((g67 k z7.2.1).bind fun x3_28 => j8 (z7.2.1, fW .i64 (z5.1 + z7.2.2), eqL x3_28 [])))) else ((g67 k z7.2.1).bind fun x3_28 => j8 (z7.2.1, fW .i64 (z5.1 + z7.2.2), eqL x3_28 []))))) else (if (decide (z7.2.2 < 1)) then (j8 (z7.2.1, fW .i64 (z5.1 + z7.2.2), true)) else (if (decide (z5.2.2 = 1)) then (if (decide ((a0.length : Int) ≤ fW .i64 (z5.1 + z7.2.2))) then (j8 (z7.2.1, fW .i64 (z5.1 + z7.2.2), true)) else ((nthS a0 (fW .i64 (z5.1 + z7.2.2))).bind fun x3_21 => if (!decide (x3_21 = 125)) then (j8 (z7.2.1, fW .i64 (z5.1 + z7.2.2), true)) else ((g67 k z7.2.1).bind fun x3_28 => j8 (z7.2.1, fW .i64 (z5.1 + z7.2.2), eqL x3_28 [])))) else ((g67 k z7.2.1).bind fun x3_28 => j8 (z7.2.1, fW .i64 (z5.1 + z7.2.2), eqL x3_28 []))))))) (fun j7 => if (decide (y6_1 < z5.2.1)) then (if (decide (fW .i64 (z5.1 + y6_1) < (a0.length : Int))) then ((nthS a0 (fW .i64 (z5.1 + y6_1))).bind fun x1_16 => (g63 k x1_16).bind fun x1_17 => j7 (decide (x1_17 < 16), y6_0, y6_1)) else (j7 (false, y6_0, y6_1))) else (j7 (false, y6_0, y6_1)))) := rfl
end
end Go.Proofs.Ytokcjgjgojlhbaa.Am
