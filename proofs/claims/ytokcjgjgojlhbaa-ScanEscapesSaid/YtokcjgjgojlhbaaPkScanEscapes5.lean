/- LawScanEscapes, part 5: whatever the input, the law comes out true: our texts, joined by a tool, without what the claim does not name. -/
import Derived.Test.YtokcjgjgojlhbaaPkScanEscapes4
set_option maxRecDepth 100000
set_option linter.unusedVariables false
namespace Go.Proofs.Ytokcjgjgojlhbaa.Am
noncomputable section
open Go
def g15 (k : Nat) (a0 : (List Nat)) (a1 : Int) : Option (S28 × Int) :=
 jn (fun (z17 : Bool) => if z17 then (some ((⟨(0 : Int), ([] : List Nat), (0 : Int)⟩ : S28), (4 : Int))) else ((nthS a0 a1).bind fun x0_2 => if (decide (x0_2 = 37)) then (g15_l18 k a0 a1 k a1) else (jn (fun (z19 : Bool) => jn (fun (z20 : Int × Int) => if (decide (z20.2 = 0)) then (some ((⟨(0 : Int), ([] : List Nat), (0 : Int)⟩ : S28), (4 : Int))) else ((subL a0 (some a1) (some (fW .i64 (a1 + z20.2)))).bind fun x14_6 => some ((⟨z20.1, x14_6, a1⟩ : S28), (0 : Int)))) (fun j20 => if z19 then (j20 (10, 1)) else ((g22 k x0_2).bind fun x2_1 => if (decide (x2_1 = 3)) then ((g23 k a0 a1).bind fun x3_2 => some ((⟨x3_2.1.f0, x3_2.1.f1, x3_2.1.f2⟩ : S28), x3_2.2)) else ((g22 k x0_2).bind fun x4_1 => if (decide (0 < x4_1)) then ((g22 k x0_2).bind fun x5_1 => (g24 k a0 a1).bind fun x5_4 => (subL a0 (some a1) (some (fW .i64 (a1 + fW .i64 (x5_4 - a1))))).bind fun x6_5 => (g25 k x6_5).bind fun x6_6 => if x6_6 then (j20 (8, fW .i64 (x5_4 - a1))) else (j20 (x5_1, fW .i64 (x5_4 - a1)))) else (if (decide (x0_2 = 39)) then ((g26 k a0 a1).bind fun x7_2 => j20 (1, x7_2)) else (if (decide (x0_2 = 34)) then ((g26 k a0 a1).bind fun x8_2 => j20 (6, x8_2)) else (if (decide (x0_2 = 36)) then ((g27 k a0 a1).bind fun x9_2 => j20 (5, x9_2)) else (if (decide (x0_2 = 63)) then (jn (fun (z21 : Bool) => jn (fun (z22 : Int) => jn (fun (z23 : Bool) => if z23 then ((g24 k a0 z22).bind fun x13_2 => j20 (7, fW .i64 (x13_2 - a1))) else (j20 (0, 0))) (fun j23 => if (decide (z22 < (a0.length : Int))) then ((nthS a0 z22).bind fun x12_7 => (g28 k x12_7).bind fun x12_8 => if x12_8 then (j23 true) else ((nthS a0 z22).bind fun x12_12 => j23 (decide (x12_12 = 95)))) else (j23 false))) (fun j22 => if z21 then (j22 (fW .i64 (fW .i64 (a1 + 1) + 1))) else (j22 (fW .i64 (a1 + 1))))) (fun j21 => if (decide (fW .i64 (a1 + 1) < (a0.length : Int))) then ((nthS a0 (fW .i64 (a1 + 1))).bind fun x10_7 => j21 (decide (x10_7 = 63))) else (j21 false))) else ((g29 k a0 a1).bind fun x11_2 => j20 (9, x11_2)))))))))) (fun j19 => if (decide (x0_2 = 46)) then (if (decide (fW .i64 (a1 + 1) = (a0.length : Int))) then (j19 true) else ((nthS a0 (fW .i64 (a1 + 1))).bind fun x1_12 => if (decide (x1_12 = 37)) then (j19 true) else ((g17 k a0 (fW .i64 (a1 + 1))).bind fun x1_19 => j19 (decide (fW .i64 (a1 + 1) < x1_19))))) else (j19 false))))) (fun j17 => if (decide (a1 < 0)) then (j17 true) else (j17 (decide ((a0.length : Int) ≤ a1))))
theorem g15_ok (k : Nat) (a0 : (List Nat)) (a1 : Int) (r : (S28 × Int)) (h : g15 k a0 a1 = some r) : PureOk Try.prog 15 [.str a0, .int .i64 a1] (.tuple [.agg [.int .i64 r.1.f0, .str r.1.f1, .int .i64 r.1.f2], .int .i64 r.2]) := by
 refine pure_of X15 (fun _ => rfl) Try.func15 (by decide +kernel) (by kernel_rfl) (t := g15 k a0 a1) ?_ h
 unfold g15
 refine oE (eE := [(0, .str a0), (1, .int .i64 a1)]) (by kernel_rfl) ?_
 let E1 : Env := [(13, .bool (decide (a1 < 0))), (12, .bool (decide (a1 < 0))), (11, .int .i64 a1), (5, .int .i64 0), (4, .ptr 0 3 0), (0, .str a0), (1, .int .i64 a1)]
 refine oR 11 (p' := (atN 3 (ctl1 g15p1))) (eE := E1) (H' := (mkH [⟨[.int .i64 0, .str [], .int .i64 0], 0, false⟩])) (by kernel_rfl) ?_
 refine oJ (f := fun (z17 : Bool) => if z17 then (some ((⟨(0 : Int), ([] : List Nat), (0 : Int)⟩ : S28), (4 : Int))) else ((nthS a0 a1).bind fun x0_2 => if (decide (x0_2 = 37)) then (g15_l18 k a0 a1 k a1) else (jn (fun (z19 : Bool) => jn (fun (z20 : Int × Int) => if (decide (z20.2 = 0)) then (some ((⟨(0 : Int), ([] : List Nat), (0 : Int)⟩ : S28), (4 : Int))) else ((subL a0 (some a1) (some (fW .i64 (a1 + z20.2)))).bind fun x14_6 => some ((⟨z20.1, x14_6, a1⟩ : S28), (0 : Int)))) (fun j20 => if z19 then (j20 (10, 1)) else ((g22 k x0_2).bind fun x2_1 => if (decide (x2_1 = 3)) then ((g23 k a0 a1).bind fun x3_2 => some ((⟨x3_2.1.f0, x3_2.1.f1, x3_2.1.f2⟩ : S28), x3_2.2)) else ((g22 k x0_2).bind fun x4_1 => if (decide (0 < x4_1)) then ((g22 k x0_2).bind fun x5_1 => (g24 k a0 a1).bind fun x5_4 => (subL a0 (some a1) (some (fW .i64 (a1 + fW .i64 (x5_4 - a1))))).bind fun x6_5 => (g25 k x6_5).bind fun x6_6 => if x6_6 then (j20 (8, fW .i64 (x5_4 - a1))) else (j20 (x5_1, fW .i64 (x5_4 - a1)))) else (if (decide (x0_2 = 39)) then ((g26 k a0 a1).bind fun x7_2 => j20 (1, x7_2)) else (if (decide (x0_2 = 34)) then ((g26 k a0 a1).bind fun x8_2 => j20 (6, x8_2)) else (if (decide (x0_2 = 36)) then ((g27 k a0 a1).bind fun x9_2 => j20 (5, x9_2)) else (if (decide (x0_2 = 63)) then (jn (fun (z21 : Bool) => jn (fun (z22 : Int) => jn (fun (z23 : Bool) => if z23 then ((g24 k a0 z22).bind fun x13_2 => j20 (7, fW .i64 (x13_2 - a1))) else (j20 (0, 0))) (fun j23 => if (decide (z22 < (a0.length : Int))) then ((nthS a0 z22).bind fun x12_7 => (g28 k x12_7).bind fun x12_8 => if x12_8 then (j23 true) else ((nthS a0 z22).bind fun x12_12 => j23 (decide (x12_12 = 95)))) else (j23 false))) (fun j22 => if z21 then (j22 (fW .i64 (fW .i64 (a1 + 1) + 1))) else (j22 (fW .i64 (a1 + 1))))) (fun j21 => if (decide (fW .i64 (a1 + 1) < (a0.length : Int))) then ((nthS a0 (fW .i64 (a1 + 1))).bind fun x10_7 => j21 (decide (x10_7 = 63))) else (j21 false))) else ((g29 k a0 a1).bind fun x11_2 => j20 (9, x11_2)))))))))) (fun j19 => if (decide (x0_2 = 46)) then (if (decide (fW .i64 (a1 + 1) = (a0.length : Int))) then (j19 true) else ((nthS a0 (fW .i64 (a1 + 1))).bind fun x1_12 => if (decide (x1_12 = 37)) then (j19 true) else ((g17 k a0 (fW .i64 (a1 + 1))).bind fun x1_19 => j19 (decide (fW .i64 (a1 + 1) < x1_19))))) else (j19 false))))) g15p2 (fun (z17 : Bool) => [(0, .str a0), (1, .int .i64 a1), (4, .ptr 0 3 0), (18, .bool z17)]) (fun (z17 : Bool) => (mkH [⟨[.int .i64 0, .str [], .int .i64 0], 0, false⟩])) (fun z17 => ?_) (fun j17 hj17 => ?_)
 ·refine oS 18 (b := z17) (by kernel_rfl) (fun hb => ?_) (fun hb => ?_)
  ·let E2 : Env := [(5, .int .i64 4), (19, .agg [.int .i64 0, .str [], .int .i64 0]), (18, .bool true), (0, .str a0), (1, .int .i64 a1), (4, .ptr 0 3 0), (18, .bool z17)]
   refine oR 8 (p' := .fin) (eE := E2) (H' := (mkH [⟨[.int .i64 0, .str [], .int .i64 0], 3, false⟩])) (by kernel_rfl) ?_
   exact oT (r := ((⟨(0 : Int), ([] : List Nat), (0 : Int)⟩ : S28), (4 : Int))) (xs := [.agg [.int .i64 0, .str [], .int .i64 0], .int .i64 4]) (v := .tuple [.agg [.int .i64 0, .str [], .int .i64 0], .int .i64 4]) (by kernel_rfl) (by kernel_rfl) (by kernel_rfl) (.pures (by kernel_rfl)) (by kernel_rfl)
  ·let E3 : Env := [(21, .int .i64 a1), (20, .str a0), (18, .bool false), (0, .str a0), (1, .int .i64 a1), (4, .ptr 0 3 0), (18, .bool z17)]
   refine oR 6 (p' := (atN 2 (ctl1 g15p4))) (eE := E3) (H' := (mkH [⟨[.int .i64 0, .str [], .int .i64 0], 0, false⟩])) (by kernel_rfl) ?_
   refine oH (fun (x0_2 : Int) => (.int .u8 x0_2, (mkH [⟨[.int .i64 0, .str [], .int .i64 0], 0, false⟩]))) (atN 3 (ctl1 g15p4)) (fun x0_2 => ((22, .int .u8 x0_2) :: E3)) (idxH (by kernel_rfl)) (fun _ => by kernel_rfl) (fun x0_2 hx0_2 => ?_)
   let E4 : Env := ((26, .bool (decide (x0_2 = 37))) :: (28, .bool (decide (x0_2 = 37))) :: (27, .int .u8 x0_2) :: (8, .int .i64 0) :: (7, .int .i64 0) :: (6, .int .u8 x0_2) :: (22, .int .u8 x0_2) :: E3)
   refine oR 15 (p' := g15p8) (eE := E4) (H' := (mkH [⟨[.int .i64 0, .str [], .int .i64 0], 0, false⟩])) (by kernel_rfl) ?_
   refine oK [0, 1, 4, 6, 7, 8, 26] (eE := [(0, .str a0), (1, .int .i64 a1), (4, .ptr 0 3 0), (6, .int .u8 x0_2), (7, .int .i64 0), (8, .int .i64 0), (26, .bool (decide (x0_2 = 37)))]) (by kernel_rfl) ?_
   refine oS 26 (b := decide (x0_2 = 37)) (by kernel_rfl) (fun hb => ?_) (fun hb => ?_)
   ·let E5 : Env := [(9, .int .i64 a1), (29, .int .i64 a1), (26, .bool true), (0, .str a0), (1, .int .i64 a1), (4, .ptr 0 3 0), (6, .int .u8 x0_2), (7, .int .i64 0), (8, .int .i64 0), (26, .bool (decide (x0_2 = 37)))]
    refine oR 9 (p' := g15p11) (eE := E5) (H' := (mkH [⟨[.int .i64 0, .str [], .int .i64 0], 0, false⟩])) (by kernel_rfl) ?_
    refine oK [0, 1, 4, 9] (eE := [(0, .str a0), (1, .int .i64 a1), (4, .ptr 0 3 0), (9, .int .i64 a1)]) (by kernel_rfl) ?_
    exact (g15_l18_ok k a0 a1 k) a1
   ·let E12 : Env := [(52, .bool (decide (x0_2 = 46))), (51, .bool (decide (x0_2 = 46))), (50, .int .u8 x0_2), (26, .bool false), (0, .str a0), (1, .int .i64 a1), (4, .ptr 0 3 0), (6, .int .u8 x0_2), (7, .int .i64 0), (8, .int .i64 0), (26, .bool (decide (x0_2 = 37)))]
    refine oR 6 (p' := (atN 3 (ctl1 g15p10))) (eE := E12) (H' := (mkH [⟨[.int .i64 0, .str [], .int .i64 0], 0, false⟩])) (by kernel_rfl) ?_
    refine oJ (f := fun (z19 : Bool) => jn (fun (z20 : Int × Int) => if (decide (z20.2 = 0)) then (some ((⟨(0 : Int), ([] : List Nat), (0 : Int)⟩ : S28), (4 : Int))) else ((subL a0 (some a1) (some (fW .i64 (a1 + z20.2)))).bind fun x14_6 => some ((⟨z20.1, x14_6, a1⟩ : S28), (0 : Int)))) (fun j20 => if z19 then (j20 (10, 1)) else ((g22 k x0_2).bind fun x2_1 => if (decide (x2_1 = 3)) then ((g23 k a0 a1).bind fun x3_2 => some ((⟨x3_2.1.f0, x3_2.1.f1, x3_2.1.f2⟩ : S28), x3_2.2)) else ((g22 k x0_2).bind fun x4_1 => if (decide (0 < x4_1)) then ((g22 k x0_2).bind fun x5_1 => (g24 k a0 a1).bind fun x5_4 => (subL a0 (some a1) (some (fW .i64 (a1 + fW .i64 (x5_4 - a1))))).bind fun x6_5 => (g25 k x6_5).bind fun x6_6 => if x6_6 then (j20 (8, fW .i64 (x5_4 - a1))) else (j20 (x5_1, fW .i64 (x5_4 - a1)))) else (if (decide (x0_2 = 39)) then ((g26 k a0 a1).bind fun x7_2 => j20 (1, x7_2)) else (if (decide (x0_2 = 34)) then ((g26 k a0 a1).bind fun x8_2 => j20 (6, x8_2)) else (if (decide (x0_2 = 36)) then ((g27 k a0 a1).bind fun x9_2 => j20 (5, x9_2)) else (if (decide (x0_2 = 63)) then (jn (fun (z21 : Bool) => jn (fun (z22 : Int) => jn (fun (z23 : Bool) => if z23 then ((g24 k a0 z22).bind fun x13_2 => j20 (7, fW .i64 (x13_2 - a1))) else (j20 (0, 0))) (fun j23 => if (decide (z22 < (a0.length : Int))) then ((nthS a0 z22).bind fun x12_7 => (g28 k x12_7).bind fun x12_8 => if x12_8 then (j23 true) else ((nthS a0 z22).bind fun x12_12 => j23 (decide (x12_12 = 95)))) else (j23 false))) (fun j22 => if z21 then (j22 (fW .i64 (fW .i64 (a1 + 1) + 1))) else (j22 (fW .i64 (a1 + 1))))) (fun j21 => if (decide (fW .i64 (a1 + 1) < (a0.length : Int))) then ((nthS a0 (fW .i64 (a1 + 1))).bind fun x10_7 => j21 (decide (x10_7 = 63))) else (j21 false))) else ((g29 k a0 a1).bind fun x11_2 => j20 (9, x11_2)))))))))) g15p12 (fun (z19 : Bool) => [(0, .str a0), (1, .int .i64 a1), (4, .ptr 0 3 0), (6, .int .u8 x0_2), (7, .int .i64 0), (8, .int .i64 0), (49, .bool z19)]) (fun (z19 : Bool) => (mkH [⟨[.int .i64 0, .str [], .int .i64 0], 0, false⟩])) (fun z19 => ?_) (fun j19 hj19 => ?_)
    ·refine oJ (f := fun (z20 : Int × Int) => if (decide (z20.2 = 0)) then (some ((⟨(0 : Int), ([] : List Nat), (0 : Int)⟩ : S28), (4 : Int))) else ((subL a0 (some a1) (some (fW .i64 (a1 + z20.2)))).bind fun x14_6 => some ((⟨z20.1, x14_6, a1⟩ : S28), (0 : Int)))) g15p17 (fun (z20 : Int × Int) => [(0, .str a0), (1, .int .i64 a1), (4, .ptr 0 3 0), (7, .int .i64 z20.1), (8, .int .i64 z20.2)]) (fun (z20 : Int × Int) => (mkH [⟨[.int .i64 0, .str [], .int .i64 0], 0, false⟩])) (fun z20 => ?_) (fun j20 hj20 => ?_)
     ·let E13 : Env := [(159, .bool (decide (z20.2 = 0))), (158, .int .i64 z20.2), (0, .str a0), (1, .int .i64 a1), (4, .ptr 0 3 0), (7, .int .i64 z20.1), (8, .int .i64 z20.2)]
      refine oR 4 (p' := g15p21) (eE := E13) (H' := (mkH [⟨[.int .i64 0, .str [], .int .i64 0], 0, false⟩])) (by kernel_rfl) ?_
      refine oS 159 (b := decide (z20.2 = 0)) (by kernel_rfl) (fun hb => ?_) (fun hb => ?_)
      ·refine oR 8 (p' := .fin) (eE := ((5, .int .i64 4) :: (160, .agg [.int .i64 0, .str [], .int .i64 0]) :: (159, .bool true) :: E13)) (H' := (mkH [⟨[.int .i64 0, .str [], .int .i64 0], 3, false⟩])) (by kernel_rfl) ?_
       exact oT (r := ((⟨(0 : Int), ([] : List Nat), (0 : Int)⟩ : S28), (4 : Int))) (xs := [.agg [.int .i64 0, .str [], .int .i64 0], .int .i64 4]) (v := .tuple [.agg [.int .i64 0, .str [], .int .i64 0], .int .i64 4]) (by kernel_rfl) (by kernel_rfl) (by kernel_rfl) (.pures (by kernel_rfl)) (by kernel_rfl)
      ·let E14 : Env := ((166, .int .i64 (fW .i64 (a1 + z20.2))) :: (165, .int .i64 z20.2) :: (164, .int .i64 a1) :: (163, .int .i64 a1) :: (162, .str a0) :: (161, .int .i64 z20.1) :: (159, .bool false) :: E13)
       refine oR 10 (p' := (atN 6 (ctl1 g15p25))) (eE := E14) (H' := (mkH [⟨[.int .i64 0, .str [], .int .i64 0], 0, false⟩])) (by kernel_rfl) ?_
       refine oH (fun (x14_6 : (List Nat)) => (.str x14_6, (mkH [⟨[.int .i64 0, .str [], .int .i64 0], 0, false⟩]))) (atN 7 (ctl1 g15p25)) (fun x14_6 => ((167, .str x14_6) :: E14)) (subH (some a1) (some (fW .i64 (a1 + z20.2))) (by kernel_rfl)) (fun _ => by kernel_rfl) (fun x14_6 hx14_6 => ?_)
       refine oR 6 (p' := .fin) (eE := ((5, .int .i64 0) :: (169, .agg [.int .i64 z20.1, .str x14_6, .int .i64 a1]) :: (168, .int .i64 a1) :: (167, .str x14_6) :: E14)) (H' := (mkH [⟨[.int .i64 z20.1, .str x14_6, .int .i64 a1], 3, false⟩])) (by kernel_rfl) ?_
       exact oT (r := ((⟨z20.1, x14_6, a1⟩ : S28), (0 : Int))) (xs := [.agg [.int .i64 z20.1, .str x14_6, .int .i64 a1], .int .i64 0]) (v := .tuple [.agg [.int .i64 z20.1, .str x14_6, .int .i64 a1], .int .i64 0]) (by kernel_rfl) (by kernel_rfl) (by kernel_rfl) (.pures (by kernel_rfl)) (by kernel_rfl)
     ·refine oS 49 (b := z19) (by kernel_rfl) (fun hb => ?_) (fun hb => ?_)
      ·let E15 : Env := [(8, .int .i64 1), (7, .int .i64 10), (49, .bool true), (0, .str a0), (1, .int .i64 a1), (4, .ptr 0 3 0), (6, .int .u8 x0_2), (7, .int .i64 0), (8, .int .i64 0), (49, .bool z19)]
       refine oR 7 (p' := g15p17) (eE := E15) (H' := (mkH [⟨[.int .i64 0, .str [], .int .i64 0], 0, false⟩])) (by kernel_rfl) ?_
       refine oK [0, 1, 4, 7, 8] (eE := [(0, .str a0), (1, .int .i64 a1), (4, .ptr 0 3 0), (7, .int .i64 10), (8, .int .i64 1)]) (by kernel_rfl) ?_
       exact hj20 (10, 1)
      ·let E16 : Env := [(76, .int .u8 x0_2), (49, .bool false), (0, .str a0), (1, .int .i64 a1), (4, .ptr 0 3 0), (6, .int .u8 x0_2), (7, .int .i64 0), (8, .int .i64 0), (49, .bool z19)]
       refine oR 4 (p' := (atN 1 (ctl1 g15p15))) (eE := E16) (H' := (mkH [⟨[.int .i64 0, .str [], .int .i64 0], 0, false⟩])) (by kernel_rfl) ?_
       refine oC (fun (x2_1 : Int) => .int .i64 x2_1) (atN 2 (ctl1 g15p15)) (fun x2_1 => ((77, .int .i64 x2_1) :: E16)) (fi := 22) (args := [.int .u8 x0_2]) (by kernel_rfl) (by kernel_rfl) (fun _ => by kernel_rfl) (fun r h => g22_ok k x0_2 r h) (fun _ => by kernel_rfl) (fun x2_1 hx2_1 => ?_)
       refine oR 3 (p' := g15p18) (eE := ((75, .bool (decide (x2_1 = 3))) :: (78, .bool (decide (x2_1 = 3))) :: (77, .int .i64 x2_1) :: E16)) (H' := (mkH [⟨[.int .i64 0, .str [], .int .i64 0], 0, false⟩])) (by kernel_rfl) ?_
       refine oS 75 (b := decide (x2_1 = 3)) (by kernel_rfl) (fun hb => ?_) (fun hb => ?_)
       ·let E17 : Env := ((80, .int .i64 a1) :: (79, .str a0) :: (75, .bool true) :: (75, .bool (decide (x2_1 = 3))) :: (78, .bool (decide (x2_1 = 3))) :: (77, .int .i64 x2_1) :: E16)
        refine oR 5 (p' := (atN 2 (ctl1 g15p22))) (eE := E17) (H' := (mkH [⟨[.int .i64 0, .str [], .int .i64 0], 0, false⟩])) (by kernel_rfl) ?_
        refine oC (fun (x3_2 : (S28 × Int)) => .tuple [.agg [.int .i64 x3_2.1.f0, .str x3_2.1.f1, .int .i64 x3_2.1.f2], .int .i64 x3_2.2]) (atN 3 (ctl1 g15p22)) (fun x3_2 => ((81, .tuple [.agg [.int .i64 x3_2.1.f0, .str x3_2.1.f1, .int .i64 x3_2.1.f2], .int .i64 x3_2.2]) :: E17)) (fi := 23) (args := [.str a0, .int .i64 a1]) (by kernel_rfl) (by kernel_rfl) (fun _ => by kernel_rfl) (fun r h => g23_ok k a0 a1 r h) (fun _ => by kernel_rfl) (fun x3_2 hx3_2 => ?_)
        refine oR 6 (p' := .fin) (eE := ((5, .int .i64 x3_2.2) :: (83, .int .i64 x3_2.2) :: (82, .agg [.int .i64 x3_2.1.f0, .str x3_2.1.f1, .int .i64 x3_2.1.f2]) :: (81, .tuple [.agg [.int .i64 x3_2.1.f0, .str x3_2.1.f1, .int .i64 x3_2.1.f2], .int .i64 x3_2.2]) :: E17)) (H' := (mkH [⟨[.int .i64 x3_2.1.f0, .str x3_2.1.f1, .int .i64 x3_2.1.f2], 3, false⟩])) (by kernel_rfl) ?_
        exact oT (r := ((⟨x3_2.1.f0, x3_2.1.f1, x3_2.1.f2⟩ : S28), x3_2.2)) (xs := [.agg [.int .i64 x3_2.1.f0, .str x3_2.1.f1, .int .i64 x3_2.1.f2], .int .i64 x3_2.2]) (v := .tuple [.agg [.int .i64 x3_2.1.f0, .str x3_2.1.f1, .int .i64 x3_2.1.f2], .int .i64 x3_2.2]) (by kernel_rfl) (by kernel_rfl) (by kernel_rfl) (.pures (by kernel_rfl)) (by kernel_rfl)
       ·let E18 : Env := ((85, .int .u8 x0_2) :: (75, .bool false) :: (75, .bool (decide (x2_1 = 3))) :: (78, .bool (decide (x2_1 = 3))) :: (77, .int .i64 x2_1) :: E16)
        refine oR 4 (p' := (atN 1 (ctl1 g15p23))) (eE := E18) (H' := (mkH [⟨[.int .i64 0, .str [], .int .i64 0], 0, false⟩])) (by kernel_rfl) ?_
        refine oC (fun (x4_1 : Int) => .int .i64 x4_1) (atN 2 (ctl1 g15p23)) (fun x4_1 => ((86, .int .i64 x4_1) :: E18)) (fi := 22) (args := [.int .u8 x0_2]) (by kernel_rfl) (by kernel_rfl) (fun _ => by kernel_rfl) (fun r h => g22_ok k x0_2 r h) (fun _ => by kernel_rfl) (fun x4_1 hx4_1 => ?_)
        refine oR 3 (p' := g15p26) (eE := ((84, .bool (decide (0 < x4_1))) :: (87, .bool (decide (0 < x4_1))) :: (86, .int .i64 x4_1) :: E18)) (H' := (mkH [⟨[.int .i64 0, .str [], .int .i64 0], 0, false⟩])) (by kernel_rfl) ?_
        refine oK [0, 1, 4, 6, 7, 8, 84] (eE := [(0, .str a0), (1, .int .i64 a1), (4, .ptr 0 3 0), (6, .int .u8 x0_2), (7, .int .i64 0), (8, .int .i64 0), (84, .bool (decide (0 < x4_1)))]) (by kernel_rfl) ?_
        refine oS 84 (b := decide (0 < x4_1)) (by kernel_rfl) (fun hb => ?_) (fun hb => ?_)
        ·let E19 : Env := [(88, .int .u8 x0_2), (84, .bool true), (0, .str a0), (1, .int .i64 a1), (4, .ptr 0 3 0), (6, .int .u8 x0_2), (7, .int .i64 0), (8, .int .i64 0), (84, .bool (decide (0 < x4_1)))]
         refine oR 4 (p' := (atN 1 (ctl1 g15p27))) (eE := E19) (H' := (mkH [⟨[.int .i64 0, .str [], .int .i64 0], 0, false⟩])) (by kernel_rfl) ?_
         refine oC (fun (x5_1 : Int) => .int .i64 x5_1) (atN 2 (ctl1 g15p27)) (fun x5_1 => ((89, .int .i64 x5_1) :: E19)) (fi := 22) (args := [.int .u8 x0_2]) (by kernel_rfl) (by kernel_rfl) (fun _ => by kernel_rfl) (fun r h => g22_ok k x0_2 r h) (fun _ => by kernel_rfl) (fun x5_1 hx5_1 => ?_)
         refine oR 2 (p' := (atN 4 (ctl1 g15p27))) (eE := ((91, .int .i64 a1) :: (90, .str a0) :: (89, .int .i64 x5_1) :: E19)) (H' := (mkH [⟨[.int .i64 0, .str [], .int .i64 0], 0, false⟩])) (by kernel_rfl) ?_
         refine oC (fun (x5_4 : Int) => .int .i64 x5_4) (atN 5 (ctl1 g15p27)) (fun x5_4 => ((92, .int .i64 x5_4) :: (91, .int .i64 a1) :: (90, .str a0) :: (89, .int .i64 x5_1) :: E19)) (fi := 24) (args := [.str a0, .int .i64 a1]) (by kernel_rfl) (by kernel_rfl) (fun _ => by kernel_rfl) (fun r h => g24_ok k a0 a1 r h) (fun _ => by kernel_rfl) (fun x5_4 hx5_4 => ?_)
         let E20 : Env := ((8, .int .i64 (fW .i64 (x5_4 - a1))) :: (7, .int .i64 x5_1) :: (94, .int .i64 (fW .i64 (x5_4 - a1))) :: (93, .int .i64 a1) :: (92, .int .i64 x5_4) :: (91, .int .i64 a1) :: (90, .str a0) :: (89, .int .i64 x5_1) :: E19)
         refine oR 6 (p' := g15p29) (eE := E20) (H' := (mkH [⟨[.int .i64 0, .str [], .int .i64 0], 0, false⟩])) (by kernel_rfl) ?_
         refine oK [0, 1, 4, 7, 8] (eE := [(0, .str a0), (1, .int .i64 a1), (4, .ptr 0 3 0), (7, .int .i64 x5_1), (8, .int .i64 (fW .i64 (x5_4 - a1)))]) (by kernel_rfl) ?_
         let E21 : Env := [(99, .int .i64 (fW .i64 (a1 + fW .i64 (x5_4 - a1)))), (98, .int .i64 (fW .i64 (x5_4 - a1))), (97, .int .i64 a1), (96, .int .i64 a1), (95, .str a0), (0, .str a0), (1, .int .i64 a1), (4, .ptr 0 3 0), (7, .int .i64 x5_1), (8, .int .i64 (fW .i64 (x5_4 - a1)))]
         refine oR 6 (p' := (atN 5 (ctl1 g15p29))) (eE := E21) (H' := (mkH [⟨[.int .i64 0, .str [], .int .i64 0], 0, false⟩])) (by kernel_rfl) ?_
         refine oH (fun (x6_5 : (List Nat)) => (.str x6_5, (mkH [⟨[.int .i64 0, .str [], .int .i64 0], 0, false⟩]))) (atN 6 (ctl1 g15p29)) (fun x6_5 => ((100, .str x6_5) :: E21)) (subH (some a1) (some (fW .i64 (a1 + fW .i64 (x5_4 - a1)))) (by kernel_rfl)) (fun _ => by kernel_rfl) (fun x6_5 hx6_5 => ?_)
         refine oC (fun (x6_6 : Bool) => .bool x6_6) (atN 7 (ctl1 g15p29)) (fun x6_6 => ((101, .bool x6_6) :: (100, .str x6_5) :: E21)) (fi := 25) (args := [.str x6_5]) (by kernel_rfl) (by kernel_rfl) (fun _ => by kernel_rfl) (fun r h => g25_ok k x6_5 r h) (fun _ => by kernel_rfl) (fun x6_6 hx6_6 => ?_)
         refine oR 1 (p' := g15p31) (eE := ((101, .bool x6_6) :: (100, .str x6_5) :: E21)) (H' := (mkH [⟨[.int .i64 0, .str [], .int .i64 0], 0, false⟩])) (by kernel_rfl) ?_
         refine oS 101 (b := x6_6) (by kernel_rfl) (fun hb => ?_) (fun hb => ?_)
         ·refine oR 6 (p' := g15p17) (eE := ((7, .int .i64 8) :: (101, .bool true) :: (101, .bool x6_6) :: (100, .str x6_5) :: E21)) (H' := (mkH [⟨[.int .i64 0, .str [], .int .i64 0], 0, false⟩])) (by kernel_rfl) ?_
          refine oK [0, 1, 4, 7, 8] (eE := [(0, .str a0), (1, .int .i64 a1), (4, .ptr 0 3 0), (7, .int .i64 8), (8, .int .i64 (fW .i64 (x5_4 - a1)))]) (by kernel_rfl) ?_
          exact hj20 (8, fW .i64 (x5_4 - a1))
         ·refine oR 4 (p' := g15p17) (eE := ((101, .bool false) :: (101, .bool x6_6) :: (100, .str x6_5) :: E21)) (H' := (mkH [⟨[.int .i64 0, .str [], .int .i64 0], 0, false⟩])) (by kernel_rfl) ?_
          refine oK [0, 1, 4, 7, 8] (eE := [(0, .str a0), (1, .int .i64 a1), (4, .ptr 0 3 0), (7, .int .i64 x5_1), (8, .int .i64 (fW .i64 (x5_4 - a1)))]) (by kernel_rfl) ?_
          exact hj20 (x5_1, fW .i64 (x5_4 - a1))
        ·let E22 : Env := [(102, .bool (decide (x0_2 = 39))), (104, .bool (decide (x0_2 = 39))), (103, .int .u8 x0_2), (84, .bool false), (0, .str a0), (1, .int .i64 a1), (4, .ptr 0 3 0), (6, .int .u8 x0_2), (7, .int .i64 0), (8, .int .i64 0), (84, .bool (decide (0 < x4_1)))]
         refine oR 7 (p' := g15p30) (eE := E22) (H' := (mkH [⟨[.int .i64 0, .str [], .int .i64 0], 0, false⟩])) (by kernel_rfl) ?_
         refine oS 102 (b := decide (x0_2 = 39)) (by kernel_rfl) (fun hb => ?_) (fun hb => ?_)
         ·refine oR 4 (p' := (atN 2 (ctl1 g15p32))) (eE := ((106, .int .i64 a1) :: (105, .str a0) :: (102, .bool true) :: E22)) (H' := (mkH [⟨[.int .i64 0, .str [], .int .i64 0], 0, false⟩])) (by kernel_rfl) ?_
          refine oC (fun (x7_2 : Int) => .int .i64 x7_2) (atN 3 (ctl1 g15p32)) (fun x7_2 => ((107, .int .i64 x7_2) :: (106, .int .i64 a1) :: (105, .str a0) :: (102, .bool true) :: E22)) (fi := 26) (args := [.str a0, .int .i64 a1]) (by kernel_rfl) (by kernel_rfl) (fun _ => by kernel_rfl) (fun r h => g26_ok k a0 a1 r h) (fun _ => by kernel_rfl) (fun x7_2 hx7_2 => ?_)
          let E23 : Env := ((8, .int .i64 x7_2) :: (7, .int .i64 1) :: (107, .int .i64 x7_2) :: (106, .int .i64 a1) :: (105, .str a0) :: (102, .bool true) :: E22)
          refine oR 5 (p' := g15p17) (eE := E23) (H' := (mkH [⟨[.int .i64 0, .str [], .int .i64 0], 0, false⟩])) (by kernel_rfl) ?_
          refine oK [0, 1, 4, 7, 8] (eE := [(0, .str a0), (1, .int .i64 a1), (4, .ptr 0 3 0), (7, .int .i64 1), (8, .int .i64 x7_2)]) (by kernel_rfl) ?_
          exact hj20 (1, x7_2)
         ·refine oR 7 (p' := g15p35) (eE := ((108, .bool (decide (x0_2 = 34))) :: (110, .bool (decide (x0_2 = 34))) :: (109, .int .u8 x0_2) :: (102, .bool false) :: E22)) (H' := (mkH [⟨[.int .i64 0, .str [], .int .i64 0], 0, false⟩])) (by kernel_rfl) ?_
          refine oK [0, 1, 4, 6, 7, 8, 108] (eE := [(0, .str a0), (1, .int .i64 a1), (4, .ptr 0 3 0), (6, .int .u8 x0_2), (7, .int .i64 0), (8, .int .i64 0), (108, .bool (decide (x0_2 = 34)))]) (by kernel_rfl) ?_
          refine oS 108 (b := decide (x0_2 = 34)) (by kernel_rfl) (fun hb => ?_) (fun hb => ?_)
          ·let E24 : Env := [(112, .int .i64 a1), (111, .str a0), (108, .bool true), (0, .str a0), (1, .int .i64 a1), (4, .ptr 0 3 0), (6, .int .u8 x0_2), (7, .int .i64 0), (8, .int .i64 0), (108, .bool (decide (x0_2 = 34)))]
           refine oR 4 (p' := (atN 2 (ctl1 g15p36))) (eE := E24) (H' := (mkH [⟨[.int .i64 0, .str [], .int .i64 0], 0, false⟩])) (by kernel_rfl) ?_
           refine oC (fun (x8_2 : Int) => .int .i64 x8_2) (atN 3 (ctl1 g15p36)) (fun x8_2 => ((113, .int .i64 x8_2) :: E24)) (fi := 26) (args := [.str a0, .int .i64 a1]) (by kernel_rfl) (by kernel_rfl) (fun _ => by kernel_rfl) (fun r h => g26_ok k a0 a1 r h) (fun _ => by kernel_rfl) (fun x8_2 hx8_2 => ?_)
           refine oR 5 (p' := g15p17) (eE := ((8, .int .i64 x8_2) :: (7, .int .i64 6) :: (113, .int .i64 x8_2) :: E24)) (H' := (mkH [⟨[.int .i64 0, .str [], .int .i64 0], 0, false⟩])) (by kernel_rfl) ?_
           refine oK [0, 1, 4, 7, 8] (eE := [(0, .str a0), (1, .int .i64 a1), (4, .ptr 0 3 0), (7, .int .i64 6), (8, .int .i64 x8_2)]) (by kernel_rfl) ?_
           exact hj20 (6, x8_2)
          ·let E25 : Env := [(114, .bool (decide (x0_2 = 36))), (116, .bool (decide (x0_2 = 36))), (115, .int .u8 x0_2), (108, .bool false), (0, .str a0), (1, .int .i64 a1), (4, .ptr 0 3 0), (6, .int .u8 x0_2), (7, .int .i64 0), (8, .int .i64 0), (108, .bool (decide (x0_2 = 34)))]
           refine oR 7 (p' := g15p38) (eE := E25) (H' := (mkH [⟨[.int .i64 0, .str [], .int .i64 0], 0, false⟩])) (by kernel_rfl) ?_
           refine oS 114 (b := decide (x0_2 = 36)) (by kernel_rfl) (fun hb => ?_) (fun hb => ?_)
           ·refine oR 4 (p' := (atN 2 (ctl1 g15p39))) (eE := ((118, .int .i64 a1) :: (117, .str a0) :: (114, .bool true) :: E25)) (H' := (mkH [⟨[.int .i64 0, .str [], .int .i64 0], 0, false⟩])) (by kernel_rfl) ?_
            refine oC (fun (x9_2 : Int) => .int .i64 x9_2) (atN 3 (ctl1 g15p39)) (fun x9_2 => ((119, .int .i64 x9_2) :: (118, .int .i64 a1) :: (117, .str a0) :: (114, .bool true) :: E25)) (fi := 27) (args := [.str a0, .int .i64 a1]) (by kernel_rfl) (by kernel_rfl) (fun _ => by kernel_rfl) (fun r h => g27_ok k a0 a1 r h) (fun _ => by kernel_rfl) (fun x9_2 hx9_2 => ?_)
            let E26 : Env := ((8, .int .i64 x9_2) :: (7, .int .i64 5) :: (119, .int .i64 x9_2) :: (118, .int .i64 a1) :: (117, .str a0) :: (114, .bool true) :: E25)
            refine oR 5 (p' := g15p17) (eE := E26) (H' := (mkH [⟨[.int .i64 0, .str [], .int .i64 0], 0, false⟩])) (by kernel_rfl) ?_
            refine oK [0, 1, 4, 7, 8] (eE := [(0, .str a0), (1, .int .i64 a1), (4, .ptr 0 3 0), (7, .int .i64 5), (8, .int .i64 x9_2)]) (by kernel_rfl) ?_
            exact hj20 (5, x9_2)
           ·refine oR 7 (p' := g15p41) (eE := ((120, .bool (decide (x0_2 = 63))) :: (122, .bool (decide (x0_2 = 63))) :: (121, .int .u8 x0_2) :: (114, .bool false) :: E25)) (H' := (mkH [⟨[.int .i64 0, .str [], .int .i64 0], 0, false⟩])) (by kernel_rfl) ?_
            refine oK [0, 1, 4, 7, 8, 120] (eE := [(0, .str a0), (1, .int .i64 a1), (4, .ptr 0 3 0), (7, .int .i64 0), (8, .int .i64 0), (120, .bool (decide (x0_2 = 63)))]) (by kernel_rfl) ?_
            refine oS 120 (b := decide (x0_2 = 63)) (by kernel_rfl) (fun hb => ?_) (fun hb => ?_)
            ·let E27 : Env := [(129, .bool (decide (fW .i64 (a1 + 1) < (a0.length : Int)))), (128, .bool (decide (fW .i64 (a1 + 1) < (a0.length : Int)))), (127, .int .i64 (a0.length : Int)), (126, .str a0), (125, .int .i64 (fW .i64 (a1 + 1))), (10, .int .i64 (fW .i64 (a1 + 1))), (124, .int .i64 (fW .i64 (a1 + 1))), (123, .int .i64 a1), (120, .bool true), (0, .str a0), (1, .int .i64 a1), (4, .ptr 0 3 0), (7, .int .i64 0), (8, .int .i64 0), (120, .bool (decide (x0_2 = 63)))]
             refine oR 15 (p' := (atN 5 (ctl1 g15p44))) (eE := E27) (H' := (mkH [⟨[.int .i64 0, .str [], .int .i64 0], 0, false⟩])) (by kernel_rfl) ?_
             refine oJ (f := fun (z21 : Bool) => jn (fun (z22 : Int) => jn (fun (z23 : Bool) => if z23 then ((g24 k a0 z22).bind fun x13_2 => j20 (7, fW .i64 (x13_2 - a1))) else (j20 (0, 0))) (fun j23 => if (decide (z22 < (a0.length : Int))) then ((nthS a0 z22).bind fun x12_7 => (g28 k x12_7).bind fun x12_8 => if x12_8 then (j23 true) else ((nthS a0 z22).bind fun x12_12 => j23 (decide (x12_12 = 95)))) else (j23 false))) (fun j22 => if z21 then (j22 (fW .i64 (fW .i64 (a1 + 1) + 1))) else (j22 (fW .i64 (a1 + 1))))) g15p45 (fun (z21 : Bool) => [(0, .str a0), (1, .int .i64 a1), (4, .ptr 0 3 0), (7, .int .i64 0), (8, .int .i64 0), (10, .int .i64 (fW .i64 (a1 + 1))), (134, .bool z21)]) (fun (z21 : Bool) => (mkH [⟨[.int .i64 0, .str [], .int .i64 0], 0, false⟩])) (fun z21 => ?_) (fun j21 hj21 => ?_)
             ·refine oJ (f := fun (z22 : Int) => jn (fun (z23 : Bool) => if z23 then ((g24 k a0 z22).bind fun x13_2 => j20 (7, fW .i64 (x13_2 - a1))) else (j20 (0, 0))) (fun j23 => if (decide (z22 < (a0.length : Int))) then ((nthS a0 z22).bind fun x12_7 => (g28 k x12_7).bind fun x12_8 => if x12_8 then (j23 true) else ((nthS a0 z22).bind fun x12_12 => j23 (decide (x12_12 = 95)))) else (j23 false))) g15p47 (fun (z22 : Int) => [(0, .str a0), (1, .int .i64 a1), (4, .ptr 0 3 0), (7, .int .i64 0), (8, .int .i64 0), (10, .int .i64 z22)]) (fun (z22 : Int) => (mkH [⟨[.int .i64 0, .str [], .int .i64 0], 0, false⟩])) (fun z22 => ?_) (fun j22 hj22 => ?_)
              ·let E28 : Env := [(141, .bool (decide (z22 < (a0.length : Int)))), (140, .bool (decide (z22 < (a0.length : Int)))), (139, .int .i64 (a0.length : Int)), (138, .str a0), (137, .int .i64 z22), (0, .str a0), (1, .int .i64 a1), (4, .ptr 0 3 0), (7, .int .i64 0), (8, .int .i64 0), (10, .int .i64 z22)]
               refine oR 6 (p' := (atN 5 (ctl1 g15p47))) (eE := E28) (H' := (mkH [⟨[.int .i64 0, .str [], .int .i64 0], 0, false⟩])) (by kernel_rfl) ?_
               refine oJ (f := fun (z23 : Bool) => if z23 then ((g24 k a0 z22).bind fun x13_2 => j20 (7, fW .i64 (x13_2 - a1))) else (j20 (0, 0))) g15p48 (fun (z23 : Bool) => [(0, .str a0), (1, .int .i64 a1), (4, .ptr 0 3 0), (7, .int .i64 0), (8, .int .i64 0), (10, .int .i64 z22), (152, .bool z23)]) (fun (z23 : Bool) => (mkH [⟨[.int .i64 0, .str [], .int .i64 0], 0, false⟩])) (fun z23 => ?_) (fun j23 hj23 => ?_)
               ·refine oS 152 (b := z23) (by kernel_rfl) (fun hb => ?_) (fun hb => ?_)
                ·let E29 : Env := [(154, .int .i64 z22), (153, .str a0), (152, .bool true), (0, .str a0), (1, .int .i64 a1), (4, .ptr 0 3 0), (7, .int .i64 0), (8, .int .i64 0), (10, .int .i64 z22), (152, .bool z23)]
                 refine oR 4 (p' := (atN 2 (ctl1 g15p49))) (eE := E29) (H' := (mkH [⟨[.int .i64 0, .str [], .int .i64 0], 0, false⟩])) (by kernel_rfl) ?_
                 refine oC (fun (x13_2 : Int) => .int .i64 x13_2) (atN 3 (ctl1 g15p49)) (fun x13_2 => ((155, .int .i64 x13_2) :: E29)) (fi := 24) (args := [.str a0, .int .i64 z22]) (by kernel_rfl) (by kernel_rfl) (fun _ => by kernel_rfl) (fun r h => g24_ok k a0 z22 r h) (fun _ => by kernel_rfl) (fun x13_2 hx13_2 => ?_)
                 let E30 : Env := ((8, .int .i64 (fW .i64 (x13_2 - a1))) :: (7, .int .i64 7) :: (157, .int .i64 (fW .i64 (x13_2 - a1))) :: (156, .int .i64 a1) :: (155, .int .i64 x13_2) :: E29)
                 refine oR 7 (p' := g15p17) (eE := E30) (H' := (mkH [⟨[.int .i64 0, .str [], .int .i64 0], 0, false⟩])) (by kernel_rfl) ?_
                 refine oK [0, 1, 4, 7, 8] (eE := [(0, .str a0), (1, .int .i64 a1), (4, .ptr 0 3 0), (7, .int .i64 7), (8, .int .i64 (fW .i64 (x13_2 - a1)))]) (by kernel_rfl) ?_
                 exact hj20 (7, fW .i64 (x13_2 - a1))
                ·let E31 : Env := [(152, .bool false), (0, .str a0), (1, .int .i64 a1), (4, .ptr 0 3 0), (7, .int .i64 0), (8, .int .i64 0), (10, .int .i64 z22), (152, .bool z23)]
                 refine oR 4 (p' := g15p17) (eE := E31) (H' := (mkH [⟨[.int .i64 0, .str [], .int .i64 0], 0, false⟩])) (by kernel_rfl) ?_
                 refine oK [0, 1, 4, 7, 8] (eE := [(0, .str a0), (1, .int .i64 a1), (4, .ptr 0 3 0), (7, .int .i64 0), (8, .int .i64 0)]) (by kernel_rfl) ?_
                 exact hj20 (0, 0)
               ·refine oS 141 (b := decide (z22 < (a0.length : Int))) (by kernel_rfl) (fun hb => ?_) (fun hb => ?_)
                ·refine oR 2 (p' := (atN 7 (ctl1 g15p47))) (eE := ((143, .int .i64 z22) :: (142, .str a0) :: (141, .bool true) :: E28)) (H' := (mkH [⟨[.int .i64 0, .str [], .int .i64 0], 0, false⟩])) (by kernel_rfl) ?_
                 refine oH (fun (x12_7 : Int) => (.int .u8 x12_7, (mkH [⟨[.int .i64 0, .str [], .int .i64 0], 0, false⟩]))) (atN 8 (ctl1 g15p47)) (fun x12_7 => ((144, .int .u8 x12_7) :: (143, .int .i64 z22) :: (142, .str a0) :: (141, .bool true) :: E28)) (idxH (by kernel_rfl)) (fun _ => by kernel_rfl) (fun x12_7 hx12_7 => ?_)
                 refine oC (fun (x12_8 : Bool) => .bool x12_8) (atN 9 (ctl1 g15p47)) (fun x12_8 => ((145, .bool x12_8) :: (144, .int .u8 x12_7) :: (143, .int .i64 z22) :: (142, .str a0) :: (141, .bool true) :: E28)) (fi := 28) (args := [.int .u8 x12_7]) (by kernel_rfl) (by kernel_rfl) (fun _ => by kernel_rfl) (fun r h => g28_ok k x12_7 r h) (fun _ => by kernel_rfl) (fun x12_8 hx12_8 => ?_)
                 let E32 : Env := ((146, .bool x12_8) :: (145, .bool x12_8) :: (144, .int .u8 x12_7) :: (143, .int .i64 z22) :: (142, .str a0) :: (141, .bool true) :: E28)
                 refine oR 1 (p' := (atN 10 (ctl1 g15p47))) (eE := E32) (H' := (mkH [⟨[.int .i64 0, .str [], .int .i64 0], 0, false⟩])) (by kernel_rfl) ?_
                 refine oS 146 (b := x12_8) (by kernel_rfl) (fun hb => ?_) (fun hb => ?_)
                 ·let E33 : Env := ((152, .bool true) :: (151, .bool true) :: (150, .tuple []) :: (149, .tuple []) :: (148, .tuple []) :: (147, .tuple []) :: (146, .bool true) :: E32)
                  refine oR 7 (p' := g15p48) (eE := E33) (H' := (mkH [⟨[.int .i64 0, .str [], .int .i64 0], 0, false⟩])) (by kernel_rfl) ?_
                  refine oK [0, 1, 4, 7, 8, 10, 152] (eE := [(0, .str a0), (1, .int .i64 a1), (4, .ptr 0 3 0), (7, .int .i64 0), (8, .int .i64 0), (10, .int .i64 z22), (152, .bool true)]) (by kernel_rfl) ?_
                  exact hj23 true
                 ·refine oR 2 (p' := (atN 12 (ctl1 g15p47))) (eE := ((148, .int .i64 z22) :: (147, .str a0) :: (146, .bool false) :: E32)) (H' := (mkH [⟨[.int .i64 0, .str [], .int .i64 0], 0, false⟩])) (by kernel_rfl) ?_
                  refine oH (fun (x12_12 : Int) => (.int .u8 x12_12, (mkH [⟨[.int .i64 0, .str [], .int .i64 0], 0, false⟩]))) (atN 13 (ctl1 g15p47)) (fun x12_12 => ((149, .int .u8 x12_12) :: (148, .int .i64 z22) :: (147, .str a0) :: (146, .bool false) :: E32)) (idxH (by kernel_rfl)) (fun _ => by kernel_rfl) (fun x12_12 hx12_12 => ?_)
                  let E34 : Env := ((152, .bool (decide (x12_12 = 95))) :: (151, .bool (decide (x12_12 = 95))) :: (150, .bool (decide (x12_12 = 95))) :: (149, .int .u8 x12_12) :: (148, .int .i64 z22) :: (147, .str a0) :: (146, .bool false) :: E32)
                  refine oR 4 (p' := g15p48) (eE := E34) (H' := (mkH [⟨[.int .i64 0, .str [], .int .i64 0], 0, false⟩])) (by kernel_rfl) ?_
                  refine oK [0, 1, 4, 7, 8, 10, 152] (eE := [(0, .str a0), (1, .int .i64 a1), (4, .ptr 0 3 0), (7, .int .i64 0), (8, .int .i64 0), (10, .int .i64 z22), (152, .bool (decide (x12_12 = 95)))]) (by kernel_rfl) ?_
                  exact hj23 (decide (x12_12 = 95))
                ·let E35 : Env := ((152, .bool false) :: (151, .tuple []) :: (150, .tuple []) :: (149, .tuple []) :: (148, .tuple []) :: (147, .tuple []) :: (146, .tuple []) :: (145, .tuple []) :: (144, .tuple []) :: (143, .tuple []) :: (142, .tuple []) :: (141, .bool false) :: E28)
                 refine oR 12 (p' := g15p48) (eE := E35) (H' := (mkH [⟨[.int .i64 0, .str [], .int .i64 0], 0, false⟩])) (by kernel_rfl) ?_
                 refine oK [0, 1, 4, 7, 8, 10, 152] (eE := [(0, .str a0), (1, .int .i64 a1), (4, .ptr 0 3 0), (7, .int .i64 0), (8, .int .i64 0), (10, .int .i64 z22), (152, .bool false)]) (by kernel_rfl) ?_
                 exact hj23 false
              ·refine oS 134 (b := z21) (by kernel_rfl) (fun hb => ?_) (fun hb => ?_)
               ·let E36 : Env := [(10, .int .i64 (fW .i64 (fW .i64 (a1 + 1) + 1))), (136, .int .i64 (fW .i64 (fW .i64 (a1 + 1) + 1))), (135, .int .i64 (fW .i64 (a1 + 1))), (134, .bool true), (0, .str a0), (1, .int .i64 a1), (4, .ptr 0 3 0), (7, .int .i64 0), (8, .int .i64 0), (10, .int .i64 (fW .i64 (a1 + 1))), (134, .bool z21)]
                refine oR 7 (p' := g15p47) (eE := E36) (H' := (mkH [⟨[.int .i64 0, .str [], .int .i64 0], 0, false⟩])) (by kernel_rfl) ?_
                refine oK [0, 1, 4, 7, 8, 10] (eE := [(0, .str a0), (1, .int .i64 a1), (4, .ptr 0 3 0), (7, .int .i64 0), (8, .int .i64 0), (10, .int .i64 (fW .i64 (fW .i64 (a1 + 1) + 1)))]) (by kernel_rfl) ?_
                exact hj22 (fW .i64 (fW .i64 (a1 + 1) + 1))
               ·let E37 : Env := [(134, .bool false), (0, .str a0), (1, .int .i64 a1), (4, .ptr 0 3 0), (7, .int .i64 0), (8, .int .i64 0), (10, .int .i64 (fW .i64 (a1 + 1))), (134, .bool z21)]
                refine oR 3 (p' := g15p47) (eE := E37) (H' := (mkH [⟨[.int .i64 0, .str [], .int .i64 0], 0, false⟩])) (by kernel_rfl) ?_
                refine oK [0, 1, 4, 7, 8, 10] (eE := [(0, .str a0), (1, .int .i64 a1), (4, .ptr 0 3 0), (7, .int .i64 0), (8, .int .i64 0), (10, .int .i64 (fW .i64 (a1 + 1)))]) (by kernel_rfl) ?_
                exact hj22 (fW .i64 (a1 + 1))
             ·refine oS 129 (b := decide (fW .i64 (a1 + 1) < (a0.length : Int))) (by kernel_rfl) (fun hb => ?_) (fun hb => ?_)
              ·refine oR 2 (p' := (atN 7 (ctl1 g15p44))) (eE := ((131, .int .i64 (fW .i64 (a1 + 1))) :: (130, .str a0) :: (129, .bool true) :: E27)) (H' := (mkH [⟨[.int .i64 0, .str [], .int .i64 0], 0, false⟩])) (by kernel_rfl) ?_
               refine oH (fun (x10_7 : Int) => (.int .u8 x10_7, (mkH [⟨[.int .i64 0, .str [], .int .i64 0], 0, false⟩]))) (atN 8 (ctl1 g15p44)) (fun x10_7 => ((132, .int .u8 x10_7) :: (131, .int .i64 (fW .i64 (a1 + 1))) :: (130, .str a0) :: (129, .bool true) :: E27)) (idxH (by kernel_rfl)) (fun _ => by kernel_rfl) (fun x10_7 hx10_7 => ?_)
               let E38 : Env := ((134, .bool (decide (x10_7 = 63))) :: (133, .bool (decide (x10_7 = 63))) :: (132, .int .u8 x10_7) :: (131, .int .i64 (fW .i64 (a1 + 1))) :: (130, .str a0) :: (129, .bool true) :: E27)
               refine oR 3 (p' := g15p45) (eE := E38) (H' := (mkH [⟨[.int .i64 0, .str [], .int .i64 0], 0, false⟩])) (by kernel_rfl) ?_
               refine oK [0, 1, 4, 7, 8, 10, 134] (eE := [(0, .str a0), (1, .int .i64 a1), (4, .ptr 0 3 0), (7, .int .i64 0), (8, .int .i64 0), (10, .int .i64 (fW .i64 (a1 + 1))), (134, .bool (decide (x10_7 = 63)))]) (by kernel_rfl) ?_
               exact hj21 (decide (x10_7 = 63))
              ·let E39 : Env := ((134, .bool false) :: (133, .tuple []) :: (132, .tuple []) :: (131, .tuple []) :: (130, .tuple []) :: (129, .bool false) :: E27)
               refine oR 6 (p' := g15p45) (eE := E39) (H' := (mkH [⟨[.int .i64 0, .str [], .int .i64 0], 0, false⟩])) (by kernel_rfl) ?_
               refine oK [0, 1, 4, 7, 8, 10, 134] (eE := [(0, .str a0), (1, .int .i64 a1), (4, .ptr 0 3 0), (7, .int .i64 0), (8, .int .i64 0), (10, .int .i64 (fW .i64 (a1 + 1))), (134, .bool false)]) (by kernel_rfl) ?_
               exact hj21 false
            ·let E40 : Env := [(24, .int .i64 a1), (23, .str a0), (120, .bool false), (0, .str a0), (1, .int .i64 a1), (4, .ptr 0 3 0), (7, .int .i64 0), (8, .int .i64 0), (120, .bool (decide (x0_2 = 63)))]
             refine oR 4 (p' := (atN 2 (ctl1 g15p43))) (eE := E40) (H' := (mkH [⟨[.int .i64 0, .str [], .int .i64 0], 0, false⟩])) (by kernel_rfl) ?_
             refine oC (fun (x11_2 : Int) => .int .i64 x11_2) (atN 3 (ctl1 g15p43)) (fun x11_2 => ((25, .int .i64 x11_2) :: E40)) (fi := 29) (args := [.str a0, .int .i64 a1]) (by kernel_rfl) (by kernel_rfl) (fun _ => by kernel_rfl) (fun r h => g29_ok k a0 a1 r h) (fun _ => by kernel_rfl) (fun x11_2 hx11_2 => ?_)
             refine oR 5 (p' := g15p17) (eE := ((8, .int .i64 x11_2) :: (7, .int .i64 9) :: (25, .int .i64 x11_2) :: E40)) (H' := (mkH [⟨[.int .i64 0, .str [], .int .i64 0], 0, false⟩])) (by kernel_rfl) ?_
             refine oK [0, 1, 4, 7, 8] (eE := [(0, .str a0), (1, .int .i64 a1), (4, .ptr 0 3 0), (7, .int .i64 9), (8, .int .i64 x11_2)]) (by kernel_rfl) ?_
             exact hj20 (9, x11_2)
    ·refine oS 52 (b := decide (x0_2 = 46)) (by kernel_rfl) (fun hb => ?_) (fun hb => ?_)
     ·let E41 : Env := ((58, .bool (decide (fW .i64 (a1 + 1) = (a0.length : Int)))) :: (57, .bool (decide (fW .i64 (a1 + 1) = (a0.length : Int)))) :: (56, .int .i64 (a0.length : Int)) :: (55, .str a0) :: (54, .int .i64 (fW .i64 (a1 + 1))) :: (53, .int .i64 a1) :: (52, .bool true) :: E12)
      refine oR 6 (p' := (atN 9 (ctl1 g15p10))) (eE := E41) (H' := (mkH [⟨[.int .i64 0, .str [], .int .i64 0], 0, false⟩])) (by kernel_rfl) ?_
      refine oS 58 (b := decide (fW .i64 (a1 + 1) = (a0.length : Int))) (by kernel_rfl) (fun hb => ?_) (fun hb => ?_)
      ·let E42 : Env := ((49, .bool true) :: (74, .bool true) :: (73, .bool true) :: (72, .tuple []) :: (71, .tuple []) :: (70, .tuple []) :: (69, .tuple []) :: (68, .tuple []) :: (67, .tuple []) :: (66, .tuple []) :: (65, .bool true) :: (64, .bool true) :: (63, .tuple []) :: (62, .tuple []) :: (61, .tuple []) :: (60, .tuple []) :: (59, .tuple []) :: (58, .bool true) :: E41)
       refine oR 18 (p' := g15p12) (eE := E42) (H' := (mkH [⟨[.int .i64 0, .str [], .int .i64 0], 0, false⟩])) (by kernel_rfl) ?_
       refine oK [0, 1, 4, 6, 7, 8, 49] (eE := [(0, .str a0), (1, .int .i64 a1), (4, .ptr 0 3 0), (6, .int .u8 x0_2), (7, .int .i64 0), (8, .int .i64 0), (49, .bool true)]) (by kernel_rfl) ?_
       exact hj19 true
      ·refine oR 3 (p' := (atN 12 (ctl1 g15p10))) (eE := ((61, .int .i64 (fW .i64 (a1 + 1))) :: (60, .int .i64 a1) :: (59, .str a0) :: (58, .bool false) :: E41)) (H' := (mkH [⟨[.int .i64 0, .str [], .int .i64 0], 0, false⟩])) (by kernel_rfl) ?_
       refine oH (fun (x1_12 : Int) => (.int .u8 x1_12, (mkH [⟨[.int .i64 0, .str [], .int .i64 0], 0, false⟩]))) (atN 13 (ctl1 g15p10)) (fun x1_12 => ((62, .int .u8 x1_12) :: (61, .int .i64 (fW .i64 (a1 + 1))) :: (60, .int .i64 a1) :: (59, .str a0) :: (58, .bool false) :: E41)) (idxH (by kernel_rfl)) (fun _ => by kernel_rfl) (fun x1_12 hx1_12 => ?_)
       let E43 : Env := ((65, .bool (decide (x1_12 = 37))) :: (64, .bool (decide (x1_12 = 37))) :: (63, .bool (decide (x1_12 = 37))) :: (62, .int .u8 x1_12) :: (61, .int .i64 (fW .i64 (a1 + 1))) :: (60, .int .i64 a1) :: (59, .str a0) :: (58, .bool false) :: E41)
       refine oR 3 (p' := (atN 16 (ctl1 g15p10))) (eE := E43) (H' := (mkH [⟨[.int .i64 0, .str [], .int .i64 0], 0, false⟩])) (by kernel_rfl) ?_
       refine oS 65 (b := decide (x1_12 = 37)) (by kernel_rfl) (fun hb => ?_) (fun hb => ?_)
       ·let E44 : Env := ((49, .bool true) :: (74, .bool true) :: (73, .bool true) :: (72, .tuple []) :: (71, .tuple []) :: (70, .tuple []) :: (69, .tuple []) :: (68, .tuple []) :: (67, .tuple []) :: (66, .tuple []) :: (65, .bool true) :: E43)
        refine oR 11 (p' := g15p12) (eE := E44) (H' := (mkH [⟨[.int .i64 0, .str [], .int .i64 0], 0, false⟩])) (by kernel_rfl) ?_
        refine oK [0, 1, 4, 6, 7, 8, 49] (eE := [(0, .str a0), (1, .int .i64 a1), (4, .ptr 0 3 0), (6, .int .u8 x0_2), (7, .int .i64 0), (8, .int .i64 0), (49, .bool true)]) (by kernel_rfl) ?_
        exact hj19 true
       ·refine oR 3 (p' := (atN 19 (ctl1 g15p10))) (eE := ((68, .int .i64 (fW .i64 (a1 + 1))) :: (67, .int .i64 a1) :: (66, .str a0) :: (65, .bool false) :: E43)) (H' := (mkH [⟨[.int .i64 0, .str [], .int .i64 0], 0, false⟩])) (by kernel_rfl) ?_
        refine oC (fun (x1_19 : Int) => .int .i64 x1_19) (atN 20 (ctl1 g15p10)) (fun x1_19 => ((69, .int .i64 x1_19) :: (68, .int .i64 (fW .i64 (a1 + 1))) :: (67, .int .i64 a1) :: (66, .str a0) :: (65, .bool false) :: E43)) (fi := 17) (args := [.str a0, .int .i64 (fW .i64 (a1 + 1))]) (by kernel_rfl) (by kernel_rfl) (fun _ => by kernel_rfl) (fun r h => g17_ok k a0 (fW .i64 (a1 + 1)) r h) (fun _ => by kernel_rfl) (fun x1_19 hx1_19 => ?_)
        let E45 : Env := ((49, .bool (decide (fW .i64 (a1 + 1) < x1_19))) :: (74, .bool (decide (fW .i64 (a1 + 1) < x1_19))) :: (73, .bool (decide (fW .i64 (a1 + 1) < x1_19))) :: (72, .bool (decide (fW .i64 (a1 + 1) < x1_19))) :: (71, .int .i64 (fW .i64 (a1 + 1))) :: (70, .int .i64 a1) :: (69, .int .i64 x1_19) :: (68, .int .i64 (fW .i64 (a1 + 1))) :: (67, .int .i64 a1) :: (66, .str a0) :: (65, .bool false) :: E43)
        refine oR 7 (p' := g15p12) (eE := E45) (H' := (mkH [⟨[.int .i64 0, .str [], .int .i64 0], 0, false⟩])) (by kernel_rfl) ?_
        refine oK [0, 1, 4, 6, 7, 8, 49] (eE := [(0, .str a0), (1, .int .i64 a1), (4, .ptr 0 3 0), (6, .int .u8 x0_2), (7, .int .i64 0), (8, .int .i64 0), (49, .bool (decide (fW .i64 (a1 + 1) < x1_19)))]) (by kernel_rfl) ?_
        exact hj19 (decide (fW .i64 (a1 + 1) < x1_19))
     ·let E46 : Env := ((49, .bool false) :: (74, .bool false) :: (73, .tuple []) :: (72, .tuple []) :: (71, .tuple []) :: (70, .tuple []) :: (69, .tuple []) :: (68, .tuple []) :: (67, .tuple []) :: (66, .tuple []) :: (65, .tuple []) :: (64, .tuple []) :: (63, .tuple []) :: (62, .tuple []) :: (61, .tuple []) :: (60, .tuple []) :: (59, .tuple []) :: (58, .tuple []) :: (57, .tuple []) :: (56, .tuple []) :: (55, .tuple []) :: (54, .tuple []) :: (53, .tuple []) :: (52, .bool false) :: E12)
      refine oR 24 (p' := g15p12) (eE := E46) (H' := (mkH [⟨[.int .i64 0, .str [], .int .i64 0], 0, false⟩])) (by kernel_rfl) ?_
      refine oK [0, 1, 4, 6, 7, 8, 49] (eE := [(0, .str a0), (1, .int .i64 a1), (4, .ptr 0 3 0), (6, .int .u8 x0_2), (7, .int .i64 0), (8, .int .i64 0), (49, .bool false)]) (by kernel_rfl) ?_
      exact hj19 false
 ·refine oS 13 (b := decide (a1 < 0)) (by kernel_rfl) (fun hb => ?_) (fun hb => ?_)
  ·let E47 : Env := ((18, .bool true) :: (17, .tuple []) :: (16, .tuple []) :: (15, .tuple []) :: (14, .tuple []) :: (13, .bool true) :: E1)
   refine oR 6 (p' := g15p2) (eE := E47) (H' := (mkH [⟨[.int .i64 0, .str [], .int .i64 0], 0, false⟩])) (by kernel_rfl) ?_
   refine oK [0, 1, 4, 18] (eE := [(0, .str a0), (1, .int .i64 a1), (4, .ptr 0 3 0), (18, .bool true)]) (by kernel_rfl) ?_
   exact hj17 true
  ·let E48 : Env := ((18, .bool (decide ((a0.length : Int) ≤ a1))) :: (17, .bool (decide ((a0.length : Int) ≤ a1))) :: (16, .int .i64 (a0.length : Int)) :: (15, .str a0) :: (14, .int .i64 a1) :: (13, .bool false) :: E1)
   refine oR 6 (p' := g15p2) (eE := E48) (H' := (mkH [⟨[.int .i64 0, .str [], .int .i64 0], 0, false⟩])) (by kernel_rfl) ?_
   refine oK [0, 1, 4, 18] (eE := [(0, .str a0), (1, .int .i64 a1), (4, .ptr 0 3 0), (18, .bool (decide ((a0.length : Int) ≤ a1)))]) (by kernel_rfl) ?_
   exact hj17 (decide ((a0.length : Int) ≤ a1))
end
end Go.Proofs.Ytokcjgjgojlhbaa.Am
set_option maxRecDepth 100000
set_option linter.unusedVariables false
namespace Go.Proofs.Ytokcjgjgojlhbaa.Am
noncomputable section
open Go
def X12 : Fx ((List S28) × Int) := ⟨Try.prog, cx, Try.f12, fun r => .tuple [.vec (r.1).length 3 ((r.1).flatMap e29), .int .i64 r.2], 0, fun _ => H0, cxTi, cxOrd⟩
def g12p0 : Pt := nav [0] (bodyAt Try.f12)
def g12p1 : Pt := nav [0, 0, 0, 0] g12p0
def g12p2 : Pt := nav [0, 0] g12p1
def g12p4 : Pt := nav [2, 0, 0, 0] g12p2
def g12p6 : Pt := nav [0, 0] g12p4
def g12p8 : Pt := nav [2, 0, 0] g12p6
def g12p9 : Pt := nav [0, 0, 0, 0] g12p8
def g12p10 : Pt := nav [0, 0, 0, 0] g12p9
def g12p11 : Pt := nav [0, 0, 0] g12p10
def g12p12 : Pt := nav [0, 0] g12p11
def g12p13 : Pt := nav [1, 0, 0, 0] g12p12
def g12p15 : Pt := nav [0, 0, 0, 0] g12p13
def g12p16 : Pt := nav [0, 0] g12p15
def g12p18 : Pt := nav [2, 0, 0] g12p16
def g12p19 : Pt := nav [0, 0] g12p18
def g12_l5 (k : Nat)  (a0 : (List Nat)) (n : Nat) : Int → (List S28) → Option ((List S28) × Int) :=
 Nat.rec (motive := fun _ => Int → (List S28) → Option ((List S28) × Int)) (fun _ _ => none) (fun _ ih => fun (y5_0 : Int) (y5_1 : (List S28)) => if (decide (y5_0 < (a0.length : Int))) then ((g15 k a0 y5_0).bind fun x2_2 => if (!decide (x2_2.2 = 0)) then (some (([] : List S28), x2_2.2)) else ((appS 32 y5_1 ([(⟨x2_2.1.f0, x2_2.1.f1, x2_2.1.f2⟩ : S28)] : List S28)).bind fun x3_3 => (g17 k a0 (fW .i64 (y5_0 + (x2_2.1.f1.length : Int)))).bind fun x4_6 => ih x4_6 x3_3)) else (some (y5_1, (0 : Int)))) n
theorem g12_l5_s (k : Nat)  (a0 : (List Nat)) (n : Nat) (y5_0 : Int) (y5_1 : (List S28)) : g12_l5 k a0 (n + 1) y5_0 y5_1 = (if (decide (y5_0 < (a0.length : Int))) then ((g15 k a0 y5_0).bind fun x2_2 => if (!decide (x2_2.2 = 0)) then (some (([] : List S28), x2_2.2)) else ((appS 32 y5_1 ([(⟨x2_2.1.f0, x2_2.1.f1, x2_2.1.f2⟩ : S28)] : List S28)).bind fun x3_3 => (g17 k a0 (fW .i64 (y5_0 + (x2_2.1.f1.length : Int)))).bind fun x4_6 => (g12_l5 k a0 n) x4_6 x3_3)) else (some (y5_1, (0 : Int)))) := rfl
theorem g12_l5_ok (k : Nat)  (a0 : (List Nat))  : ∀ (n : Nat) (y5_0 : Int) (y5_1 : (List S28)), Ok X12 g12p10 [(0, .str a0), (4, .own 0 (y5_1).length 3), (5, .int .i64 y5_0)] (mkH [⟨(y5_1).flatMap e29, 0, false⟩]) (g12_l5 k a0 n y5_0 y5_1)
 | 0, _, _ => ok_none
 | n + 1, y5_0, y5_1 => by
  have ih := g12_l5_ok k a0 n
  rw [g12_l5_s]
  refine ok_ent (p' := nav [0] g12p10) (by kernel_rfl) ?_
  let E4 : Env := [(19, .bool (decide (y5_0 < (a0.length : Int)))), (18, .int .i64 (a0.length : Int)), (17, .str a0), (16, .int .i64 y5_0), (0, .str a0), (4, .own 0 (y5_1).length 3), (5, .int .i64 y5_0)]
  refine oR 8 (p' := g12p12) (eE := E4) (H' := (mkH [⟨(y5_1).flatMap e29, 0, false⟩])) (by kernel_rfl) ?_
  refine oS 19 (b := decide (y5_0 < (a0.length : Int))) (by kernel_rfl) (fun hb => ?_) (fun hb => ?_)
  ·refine oR 7 (p' := (atN 2 (ctl1 g12p13))) (eE := ((22, .int .i64 y5_0) :: (21, .str a0) :: (19, .bool true) :: E4)) (H' := (mkH [⟨(y5_1).flatMap e29, 0, false⟩])) (by kernel_rfl) ?_
   refine oC (fun (x2_2 : (S28 × Int)) => .tuple [.agg [.int .i64 x2_2.1.f0, .str x2_2.1.f1, .int .i64 x2_2.1.f2], .int .i64 x2_2.2]) (atN 3 (ctl1 g12p13)) (fun x2_2 => ((23, .tuple [.agg [.int .i64 x2_2.1.f0, .str x2_2.1.f1, .int .i64 x2_2.1.f2], .int .i64 x2_2.2]) :: (22, .int .i64 y5_0) :: (21, .str a0) :: (19, .bool true) :: E4)) (fi := 15) (args := [.str a0, .int .i64 y5_0]) (by kernel_rfl) (by kernel_rfl) (fun _ => by kernel_rfl) (fun r h => g15_ok k a0 y5_0 r h) (fun _ => by kernel_rfl) (fun x2_2 hx2_2 => ?_)
   let E5 : Env := ((7, .int .i64 x2_2.2) :: (6, .ptr 1 3 0) :: (25, .int .i64 x2_2.2) :: (24, .agg [.int .i64 x2_2.1.f0, .str x2_2.1.f1, .int .i64 x2_2.1.f2]) :: (20, .tuple [.agg [.int .i64 x2_2.1.f0, .str x2_2.1.f1, .int .i64 x2_2.1.f2], .int .i64 x2_2.2]) :: (23, .tuple [.agg [.int .i64 x2_2.1.f0, .str x2_2.1.f1, .int .i64 x2_2.1.f2], .int .i64 x2_2.2]) :: (22, .int .i64 y5_0) :: (21, .str a0) :: (19, .bool true) :: E4)
   refine oR 9 (p' := g12p15) (eE := E5) (H' := (mkH [⟨(y5_1).flatMap e29, 0, false⟩, ⟨[.int .i64 x2_2.1.f0, .str x2_2.1.f1, .int .i64 x2_2.1.f2], 3, false⟩])) (by kernel_rfl) ?_
   refine oK [0, 4, 5, 6, 7] (eE := [(0, .str a0), (4, .own 0 (y5_1).length 3), (5, .int .i64 y5_0), (6, .ptr 1 3 0), (7, .int .i64 x2_2.2)]) (by kernel_rfl) ?_
   let E6 : Env := [(27, .bool (!decide (x2_2.2 = 0))), (26, .int .i64 x2_2.2), (0, .str a0), (4, .own 0 (y5_1).length 3), (5, .int .i64 y5_0), (6, .ptr 1 3 0), (7, .int .i64 x2_2.2)]
   refine oR 4 (p' := g12p16) (eE := E6) (H' := (mkH [⟨(y5_1).flatMap e29, 0, false⟩, ⟨[.int .i64 x2_2.1.f0, .str x2_2.1.f1, .int .i64 x2_2.1.f2], 3, false⟩])) (by kernel_rfl) ?_
   refine oS 27 (b := !decide (x2_2.2 = 0)) (by kernel_rfl) (fun hb => ?_) (fun hb => ?_)
   ·refine oR 8 (p' := .fin) (eE := ((3, .int .i64 x2_2.2) :: (2, .nils) :: (28, .int .i64 x2_2.2) :: (27, .bool true) :: E6)) (H' := (mkH [⟨(y5_1).flatMap e29, 0, false⟩, ⟨[.int .i64 x2_2.1.f0, .str x2_2.1.f1, .int .i64 x2_2.1.f2], 3, false⟩])) (by kernel_rfl) ?_
    exact oT (r := (([] : List S28), x2_2.2)) (xs := [.nils, .int .i64 x2_2.2]) (v := .tuple [.vec 0 3 [], .int .i64 x2_2.2]) (by kernel_rfl) (by kernel_rfl) (by kernel_rfl) (.tuple (.nil (.pures (by kernel_rfl))) (.pures (by kernel_rfl))) (by kernel_rfl)
   ·refine oR 7 (p' := (atN 3 (ctl1 g12p18))) (eE := ((31, .slice 2 3 0 1 3) :: (30, .agg [.int .i64 x2_2.1.f0, .str x2_2.1.f1, .int .i64 x2_2.1.f2]) :: (29, .own 0 (y5_1).length 3) :: (27, .bool false) :: E6)) (H' := (mkH [⟨(y5_1).flatMap e29, 0, false⟩, ⟨[.int .i64 x2_2.1.f0, .str x2_2.1.f1, .int .i64 x2_2.1.f2], 3, false⟩, ⟨[.int .i64 x2_2.1.f0, .str x2_2.1.f1, .int .i64 x2_2.1.f2], 0, false⟩])) (by kernel_rfl) ?_
    refine oH (fun (x3_3 : (List S28)) => (.own 0 (x3_3).length 3, (mkH [⟨(x3_3).flatMap e29, 0, false⟩, ⟨[.int .i64 x2_2.1.f0, .str x2_2.1.f1, .int .i64 x2_2.1.f2], 3, false⟩, ⟨[.int .i64 x2_2.1.f0, .str x2_2.1.f1, .int .i64 x2_2.1.f2], 0, false⟩]))) (atN 4 (ctl1 g12p18)) (fun x3_3 => ((32, .own 0 (x3_3).length 3) :: (31, .slice 2 3 0 1 3) :: (30, .agg [.int .i64 x2_2.1.f0, .str x2_2.1.f1, .int .i64 x2_2.1.f2]) :: (29, .own 0 (y5_1).length 3) :: (27, .bool false) :: E6)) (appH (sz := 3) e29_len rfl e29_one [⟨(y5_1).flatMap e29, 0, false⟩, ⟨[.int .i64 x2_2.1.f0, .str x2_2.1.f1, .int .i64 x2_2.1.f2], 3, false⟩, ⟨[.int .i64 x2_2.1.f0, .str x2_2.1.f1, .int .i64 x2_2.1.f2], 0, false⟩] 0 32 y5_1 ([(⟨x2_2.1.f0, x2_2.1.f1, x2_2.1.f2⟩ : S28)] : List S28) rfl rfl (by kernel_rfl)) (fun _ => by kernel_rfl) (fun x3_3 hx3_3 => ?_)
    let E7 : Env := ((4, .own 0 (x3_3).length 3) :: (32, .own 0 (x3_3).length 3) :: (31, .slice 2 3 0 1 3) :: (30, .agg [.int .i64 x2_2.1.f0, .str x2_2.1.f1, .int .i64 x2_2.1.f2]) :: (29, .own 0 (y5_1).length 3) :: (27, .bool false) :: E6)
    refine oR 2 (p' := g12p19) (eE := E7) (H' := (mkH [⟨(x3_3).flatMap e29, 0, false⟩, ⟨[.int .i64 x2_2.1.f0, .str x2_2.1.f1, .int .i64 x2_2.1.f2], 3, false⟩, ⟨[.int .i64 x2_2.1.f0, .str x2_2.1.f1, .int .i64 x2_2.1.f2], 0, false⟩])) (by kernel_rfl) ?_
    refine oK [0, 4, 5, 6] (eE := [(0, .str a0), (4, .own 0 (x3_3).length 3), (5, .int .i64 y5_0), (6, .ptr 1 3 0)]) (by kernel_rfl) ?_
    let E8 : Env := [(38, .int .i64 (fW .i64 (y5_0 + (x2_2.1.f1.length : Int)))), (37, .int .i64 (x2_2.1.f1.length : Int)), (36, .str x2_2.1.f1), (35, .ptr 1 3 1), (34, .int .i64 y5_0), (33, .str a0), (0, .str a0), (4, .own 0 (x3_3).length 3), (5, .int .i64 y5_0), (6, .ptr 1 3 0)]
    refine oR 7 (p' := (atN 6 (ctl1 g12p19))) (eE := E8) (H' := (mkH [⟨(x3_3).flatMap e29, 0, false⟩, ⟨[.int .i64 x2_2.1.f0, .str x2_2.1.f1, .int .i64 x2_2.1.f2], 3, false⟩, ⟨[.int .i64 x2_2.1.f0, .str x2_2.1.f1, .int .i64 x2_2.1.f2], 0, false⟩])) (by kernel_rfl) ?_
    refine oC (fun (x4_6 : Int) => .int .i64 x4_6) (atN 7 (ctl1 g12p19)) (fun x4_6 => ((39, .int .i64 x4_6) :: E8)) (fi := 17) (args := [.str a0, .int .i64 (fW .i64 (y5_0 + (x2_2.1.f1.length : Int)))]) (by kernel_rfl) (by kernel_rfl) (fun _ => by kernel_rfl) (fun r h => g17_ok k a0 (fW .i64 (y5_0 + (x2_2.1.f1.length : Int))) r h) (fun _ => by kernel_rfl) (fun x4_6 hx4_6 => ?_)
    refine oR 2 (p' := g12p10) (eE := ((5, .int .i64 x4_6) :: (39, .int .i64 x4_6) :: E8)) (H' := (mkH [⟨(x3_3).flatMap e29, 0, false⟩, ⟨[.int .i64 x2_2.1.f0, .str x2_2.1.f1, .int .i64 x2_2.1.f2], 3, false⟩, ⟨[.int .i64 x2_2.1.f0, .str x2_2.1.f1, .int .i64 x2_2.1.f2], 0, false⟩])) (by kernel_rfl) ?_
    refine oK [0, 4, 5] (eE := [(0, .str a0), (4, .own 0 (x3_3).length 3), (5, .int .i64 x4_6)]) (by kernel_rfl) ?_
    refine ok_cut [⟨(x3_3).flatMap e29, 0, false⟩] [⟨[.int .i64 x2_2.1.f0, .str x2_2.1.f1, .int .i64 x2_2.1.f2], 3, false⟩, ⟨[.int .i64 x2_2.1.f0, .str x2_2.1.f1, .int .i64 x2_2.1.f2], 0, false⟩] (by kernel_rfl) rfl (by kernel_rfl) ⟨(purs_belows _ (purs_flatMap e29_pur _)), trivial⟩ ?_
    exact ih x4_6 x3_3
  ·refine oR 9 (p' := .fin) (eE := ((3, .int .i64 0) :: (2, .own 0 (y5_1).length 3) :: (40, .own 0 (y5_1).length 3) :: (19, .bool false) :: E4)) (H' := (mkH [⟨(y5_1).flatMap e29, 0, false⟩])) (by kernel_rfl) ?_
   exact oT (r := (y5_1, (0 : Int))) (xs := [.own 0 (y5_1).length 3, .int .i64 0]) (v := .tuple [.vec (y5_1).length 3 ((y5_1).flatMap e29), .int .i64 0]) (by kernel_rfl) (by kernel_rfl) (by kernel_rfl) (.tuple (fz_own e29_len e29_pur rfl rfl (.pures (by kernel_rfl))) (.pures (by kernel_rfl))) (by kernel_rfl)
def g12 (k : Nat) (a0 : (List Nat)) : Option ((List S28) × Int) :=
 if (decide (65536 < (a0.length : Int))) then (some (([] : List S28), (3 : Int))) else ((g19 k a0).bind fun x0_1 => if (!x0_1) then (some (([] : List S28), (2 : Int))) else ((g17 k a0 (0 : Int)).bind fun x1_1 => g12_l5 k a0 k x1_1 ([] : List S28)))
theorem g12_ok (k : Nat) (a0 : (List Nat)) (r : ((List S28) × Int)) (h : g12 k a0 = some r) : PureOk Try.prog 12 [.str a0] (.tuple [.vec (r.1).length 3 ((r.1).flatMap e29), .int .i64 r.2]) := by
 refine pure_of X12 (fun _ => rfl) Try.func12 (by decide +kernel) (by kernel_rfl) (t := g12 k a0) ?_ h
 unfold g12
 refine oE (eE := [(0, .str a0)]) (by kernel_rfl) ?_
 let E1 : Env := [(10, .bool (decide (65536 < (a0.length : Int)))), (9, .int .i64 (a0.length : Int)), (8, .str a0), (3, .int .i64 0), (2, .nils), (0, .str a0)]
 refine oR 12 (p' := g12p2) (eE := E1) (H' := (mkH [])) (by kernel_rfl) ?_
 refine oS 10 (b := decide (65536 < (a0.length : Int))) (by kernel_rfl) (fun hb => ?_) (fun hb => ?_)
 ·refine oR 7 (p' := .fin) (eE := ((3, .int .i64 3) :: (2, .nils) :: (10, .bool true) :: E1)) (H' := (mkH [])) (by kernel_rfl) ?_
  exact oT (r := (([] : List S28), (3 : Int))) (xs := [.nils, .int .i64 3]) (v := .tuple [.vec 0 3 [], .int .i64 3]) (by kernel_rfl) (by kernel_rfl) (by kernel_rfl) (.tuple (.nil (.pures (by kernel_rfl))) (.pures (by kernel_rfl))) (by kernel_rfl)
 ·refine oR 6 (p' := (atN 1 (ctl1 g12p4))) (eE := ((11, .str a0) :: (10, .bool false) :: E1)) (H' := (mkH [])) (by kernel_rfl) ?_
  refine oC (fun (x0_1 : Bool) => .bool x0_1) (atN 2 (ctl1 g12p4)) (fun x0_1 => ((12, .bool x0_1) :: (11, .str a0) :: (10, .bool false) :: E1)) (fi := 19) (args := [.str a0]) (by kernel_rfl) (by kernel_rfl) (fun _ => by kernel_rfl) (fun r h => g19_ok k a0 r h) (fun _ => by kernel_rfl) (fun x0_1 hx0_1 => ?_)
  refine oR 2 (p' := g12p6) (eE := ((13, .bool (!x0_1)) :: (12, .bool x0_1) :: (11, .str a0) :: (10, .bool false) :: E1)) (H' := (mkH [])) (by kernel_rfl) ?_
  refine oK [0, 13] (eE := [(0, .str a0), (13, .bool (!x0_1))]) (by kernel_rfl) ?_
  refine oS 13 (b := !x0_1) (by kernel_rfl) (fun hb => ?_) (fun hb => ?_)
  ·let E2 : Env := [(3, .int .i64 2), (2, .nils), (13, .bool true), (0, .str a0), (13, .bool (!x0_1))]
   refine oR 7 (p' := .fin) (eE := E2) (H' := (mkH [])) (by kernel_rfl) ?_
   exact oT (r := (([] : List S28), (2 : Int))) (xs := [.nils, .int .i64 2]) (v := .tuple [.vec 0 3 [], .int .i64 2]) (by kernel_rfl) (by kernel_rfl) (by kernel_rfl) (.tuple (.nil (.pures (by kernel_rfl))) (.pures (by kernel_rfl))) (by kernel_rfl)
  ·refine oR 5 (p' := (atN 1 (ctl1 g12p8))) (eE := [(4, .nils), (13, .bool false), (0, .str a0), (13, .bool (!x0_1))]) (H' := (mkH [])) (by kernel_rfl) ?_
   refine ok_own [] 4 3 rfl (by kernel_rfl) ?_
   refine oE (eE := [(4, .own 0 (([] : List S28)).length 3), (4, .nils), (13, .bool false), (0, .str a0), (13, .bool (!x0_1))]) (by kernel_rfl) ?_
   refine ok_heap (H' := (mkH [⟨(([] : List S28)).flatMap e29, 0, false⟩])) (by kernel_rfl) ?_
   let E3 : Env := [(14, .str a0), (4, .own 0 (([] : List S28)).length 3), (4, .nils), (13, .bool false), (0, .str a0), (13, .bool (!x0_1))]
   refine oR 5 (p' := (atN 1 (ctl1 g12p9))) (eE := E3) (H' := (mkH [⟨(([] : List S28)).flatMap e29, 0, false⟩])) (by kernel_rfl) ?_
   refine oC (fun (x1_1 : Int) => .int .i64 x1_1) (atN 2 (ctl1 g12p9)) (fun x1_1 => ((15, .int .i64 x1_1) :: E3)) (fi := 17) (args := [.str a0, .int .i64 0]) (by kernel_rfl) (by kernel_rfl) (fun _ => by kernel_rfl) (fun r h => g17_ok k a0 (0 : Int) r h) (fun _ => by kernel_rfl) (fun x1_1 hx1_1 => ?_)
   refine oR 4 (p' := g12p10) (eE := ((5, .int .i64 x1_1) :: (15, .int .i64 x1_1) :: E3)) (H' := (mkH [⟨(([] : List S28)).flatMap e29, 0, false⟩])) (by kernel_rfl) ?_
   refine oK [0, 4, 5] (eE := [(0, .str a0), (4, .own 0 (([] : List S28)).length 3), (5, .int .i64 x1_1)]) (by kernel_rfl) ?_
   exact (g12_l5_ok k a0 k) x1_1 ([] : List S28)
end
end Go.Proofs.Ytokcjgjgojlhbaa.Am
set_option maxRecDepth 100000
set_option linter.unusedVariables false
set_option linter.unusedSimpArgs false
namespace Go.Proofs.Ytokcjgjgojlhbaa.Am
open Go
theorem rblank_l (k : Nat) {s : List Nat} (hs : By s) (hl : Sz s) : ∀ (f i : Nat), s.length < i + f → i ≤ s.length → g17_l1 k s f (i : Int) = some ((i + skipN (s.drop i) : Nat) : Int)
 | 0, i, h, h2 => by omega
 | f + 1, i, h, h2 => by
  have hl' := hl
  unfold Sz at hl
  rw [g17_l1_s]
  rcases Nat.lt_or_ge i s.length with hi | hi
  ·obtain ⟨c, r, hc, hr, hm, hrl⟩ := dcons hi
   have ih := rblank_l k hs hl' f (i + 1) (by omega) (by omega)
   rw [hr] at ih
   have nc := nthX (x := (i : Int)) rfl hc
   refine (jS (v := (blkN c, (i : Int))) (fun j => ?_)).trans ?_
   ·refine iT (by first | (simp (disch := omega) only [↓reduceIte, ↓jn, gsL]; done) | rfl) ?_
    refine bS (by (try simp (disch := omega) only [fwI]); exact nc) ?_
    unfold blkN
    by_cases h1 : c = 32
    ·refine iT (dT (by omega)) ?_
     rw [decide_eq_true h1]; rfl
    refine iF (dF (by omega)) ?_
    refine bS (by (try simp (disch := omega) only [fwI]); exact nc) ?_
    rw [decide_eq_false h1]
    by_cases h2 : c = 9
    ·refine iT (dT (by omega)) ?_
     rw [decide_eq_true h2]; rfl
    refine iF (dF (by omega)) ?_
    refine bS (by (try simp (disch := omega) only [fwI]); exact nc) ?_
    rw [decide_eq_false h2]
    by_cases h3 : c = 10
    ·refine iT (dT (by omega)) ?_
     rw [decide_eq_true h3]; rfl
    refine iF (dF (by omega)) ?_
    refine bS (by (try simp (disch := omega) only [fwI]); exact nc) ?_
    rw [decide_eq_false h3]
    have : decide ((c : Int) = 13) = decide (c = 13) := by rw [Bool.eq_iff_iff]; simp; omega
    rw [this]; rfl
   ·rw [hc]
    simp only [skipN]
    cases blkN c with
    | true =>
     refine iT rfl ?_
     rw [fw_s (by omega)]
     refine ih.trans (sn ?_)
     simp only [if_true]; omega
    | false =>
     refine iF rfl ?_
     simp only [Bool.false_eq_true, if_false]; rfl
  ·refine (jS (v := (false, (i : Int))) (fun j => ?_)).trans ?_
   ·simp (disch := omega) only [↓reduceIte, ↓jn, gsL]
   ·refine iF rfl ?_
    rw [dnil hi]; rfl
theorem rblank_at {k : Nat} {s : List Nat} (hk : s.length < k) (hs : By s) (hl : Sz s) {a : Nat} (ha : a ≤ s.length) : g17 k s (a : Int) = some ((a + skipN (s.drop a) : Nat) : Int) := rblank_l k hs hl k a (by omega) ha
theorem rinner_l (k : Nat) {s : List Nat} (hs : By s) (hl : Sz s) : ∀ (f i : Nat), s.length < i + f → i ≤ s.length → g24_l1 k s f (i : Int) = some ((i + innN (s.drop i) : Nat) : Int)
 | 0, i, h, h2 => by omega
 | f + 1, i, h, h2 => by
  have hl' := hl
  unfold Sz at hl
  rw [g24_l1_s]
  rcases Nat.lt_or_ge i s.length with hi | hi
  ·obtain ⟨c, r, hc, hr, hm, hrl⟩ := dcons hi
   have ih := rinner_l k hs hl' f (i + 1) (by omega) (by omega)
   rw [hr] at ih
   have nc := nthX (x := (i : Int)) rfl hc
   have bc := inner_at45 k (hs c hm)
   refine (jS (v := (inrN c, (i : Int))) (fun j => ?_)).trans ?_
   ·refine iT (by first | (simp (disch := omega) only [↓reduceIte, ↓jn, gsL]; done) | rfl) ?_
    refine bS (by (try simp (disch := omega) only [fwI]); exact nc) ?_
    refine bS (by (try simp (disch := omega) only [fwI]); exact bc) ?_
    rfl
   ·rw [hc]
    simp only [innN]
    cases inrN c with
    | true =>
     refine iT rfl ?_
     rw [fw_s (by omega)]
     refine ih.trans (sn ?_)
     simp only [if_true]; omega
    | false =>
     refine iF rfl ?_
     simp only [Bool.false_eq_true, if_false]; rfl
  ·refine (jS (v := (false, (i : Int))) (fun j => ?_)).trans ?_
   ·simp (disch := omega) only [↓reduceIte, ↓jn, gsL]
   ·refine iF rfl ?_
    rw [dnil hi]; rfl
theorem rinner_at {k : Nat} {s : List Nat} (hk : s.length < k) (hs : By s) (hl : Sz s) {a : Nat} (ha : a ≤ s.length) : g24 k s (a : Int) = some ((a + innN (s.drop a) : Nat) : Int) := rinner_l k hs hl k a (by omega) ha
theorem rquoted_l {k : Nat} (hk : 6 ≤ k) {s : List Nat} (hs : By s) (hl : Sz s) {a q : Nat} {t : List Nat} (hq : s.drop a = q :: t) (hq2 : q = 39 ∨ q = 34) : ∀ (d f i : Nat), s.length ≤ i + d → d < f → i ≤ s.length → a ≤ i → g26_l3 k s (a : Int) f (i : Int) = some ((bmp (i - a) (quoN q d (s.drop i)) : Nat) : Int) := by
 have na : nthS s (a : Int) = some (q : Int) := nthX rfl hq
 have hl' := hl
 unfold Sz at hl
 intro d
 induction d with
 | zero =>
  intro f i h1 hf h2 hai
  obtain ⟨f, rfl⟩ : ∃ f', f = f' + 1 := ⟨f - 1, by omega⟩
  rw [dnil (by omega : s.length ≤ i), g26_l3_s]
  refine (jS (v := (false, (i : Int))) (fun j => ?_)).trans ?_
  ·simp (disch := omega) only [↓reduceIte, ↓jn, gsL]
  ·refine iF rfl ?_
   refine iT (by first | (simp (disch := omega) only [↓reduceIte, ↓jn, gsL]; done) | rfl) ?_
   rfl
 | succ d ih =>
  intro f i h1 hf h2 hai
  obtain ⟨f, rfl⟩ : ∃ f', f = f' + 1 := ⟨f - 1, by omega⟩
  rw [g26_l3_s]
  rcases Nat.lt_or_ge i s.length with hi | hi
  ·obtain ⟨c, r, hc, hr, hm, hrl⟩ := dcons hi
   have nc := nthX (x := (i : Int)) rfl hc
   rw [hc]
   simp only [quoN]
   by_cases hcq : c = q
   ·subst hcq
    rw [if_pos rfl]
    refine (jS (v := (false, (i : Int))) (fun j => ?_)).trans ?_
    ·refine iT (by first | (simp (disch := omega) only [↓reduceIte, ↓jn, gsL]; done) | rfl) ?_
     refine bS (by (try simp (disch := omega) only [fwI]); exact nc) ?_
     refine bS (by (try simp (disch := omega) only [fwI]); exact na) ?_
     rw [dT rfl]; rfl
    ·refine iF rfl ?_
     refine iF (by first | (simp (disch := omega) only [↓reduceIte, ↓jn, gsL]; done) | rfl) ?_
     rw [fw_s (by omega), fwI (by omega) (by omega)]
     unfold bmp
     rw [if_neg (by decide)]
     exact congrArg some (by omega)
   ·rw [if_neg hcq]
    refine (jS (v := (true, (i : Int))) (fun j => ?_)).trans ?_
    ·refine iT (by first | (simp (disch := omega) only [↓reduceIte, ↓jn, gsL]; done) | rfl) ?_
     refine bS (by (try simp (disch := omega) only [fwI]); exact nc) ?_
     refine bS (by (try simp (disch := omega) only [fwI]); exact na) ?_
     rw [dF (by omega)]; rfl
    ·refine iT rfl ?_
     refine bS (by (try simp (disch := omega) only [fwI]); exact nc) ?_
     have step : ∀ (p : Nat) (u : List Nat), p ≤ s.length → s.drop p = u → i ≤ p → p ≤ i + 1 →
      (g32 k s (p : Int)).bind (fun x2_2 => jn (fun (z6 : Bool) => if z6 then (some (0 : Int)) else (g26_l3 k s (a : Int) f (fW .i64 ((p : Int) + x2_2.2)))) (fun j6 => if (decide (x2_2.1 < 32)) then (j6 true) else (j6 (decide (x2_2.1 = 127))))) = some ((bmp (i - a) (bmp (p - i + shwN u) (if shwN u = 0 then 0 else quoN q d (u.drop (shwN u)))) : Nat) : Int) := by
      intro p u hp hu hip hip1
      have nx := rnext_at hk hs hl' p
      rw [hu] at nx
      refine bS (by (try simp (disch := omega) only [fwI]); exact nx) ?_
      by_cases h : (dec u).1 < 32 ∨ (dec u).1 = 127
      ·have sw : shwN u = 0 := by unfold shwN; rw [if_pos h]
       rw [sw, if_pos rfl]
       refine (jS (v := true) (fun j => ?_)).trans rfl
       by_cases h1 : (dec u).1 < 32
       ·refine iT (dT h1) rfl
       ·refine iF (dF h1) ?_
        rw [dT (by omega)]
      ·have une : u ≠ [] := by intro e; rw [e] at h; exact h (.inl (by decide))
       obtain ⟨n, n1, n2, n3, n4, -⟩ := dec_size une
       have sw : shwN u = n := by unfold shwN; rw [if_neg h, n1, Int.toNat_natCast]
       rw [sw, if_neg (by clear n1; omega), n1]
       refine (jS (v := false) (fun j => ?_)).trans ?_
       ·refine iF (dF (by omega)) ?_
        rw [dF (by omega)]
       ·refine iF rfl ?_
        have ul : u.length = s.length - p := by rw [← hu, List.length_drop]
        clear n1 nx
        rw [fw_a (by omega) (by omega)]
        refine (ih f (p + n) (by omega) (by omega) (by omega) (by omega)).trans (sn ?_)
        rw [← List.drop_drop, hu]
        unfold bmp
        repeat' split
        all_goals omega
     by_cases h92 : c = 92
     ·subst h92
      rw [if_pos rfl]
      refine (jS (v := ((i + 1 : Nat) : Int)) (fun j => ?_)).trans ?_
      ·refine iT rfl ?_
       rw [fw_s (by omega)]
      ·have := step (i + 1) r (by omega) hr (by omega) (Nat.le_refl _)
       rw [show i + 1 - i = 1 by omega] at this
       exact this
     ·rw [if_neg h92]
      refine (jS (v := (i : Int)) (fun j => ?_)).trans ?_
      ·refine iF (dF (by omega)) rfl
      ·have := step i (c :: r) (by omega) hc (Nat.le_refl _) (by omega)
       rw [show i - i + shwN (c :: r) = shwN (c :: r) by omega] at this
       exact this
  ·rw [dnil hi]
   refine (jS (v := (false, (i : Int))) (fun j => ?_)).trans ?_
   ·simp (disch := omega) only [↓reduceIte, ↓jn, gsL]
   ·refine iF rfl ?_
    refine iT (by first | (simp (disch := omega) only [↓reduceIte, ↓jn, gsL]; done) | rfl) ?_
    rfl
theorem rquoted_at {k : Nat} {s : List Nat} (hk : s.length + 6 ≤ k) (hs : By s) (hl : Sz s) {a q : Nat} {t : List Nat} (hq : s.drop a = q :: t) (hq2 : q = 39 ∨ q = 34) : g26 k s (a : Int) = some ((qtdN (s.drop a) : Nat) : Int) := by
 have tl := drop_len hq
 have hl' := hl
 unfold Sz at hl
 unfold g26
 rw [fw_s (by omega)]
 refine (rquoted_l (k := k) (by omega) hs hl' hq hq2 t.length k (a + 1) (by omega) (by omega) (by omega) (by omega)).trans (sn ?_)
 rw [drop_step hq, hq, show a + 1 - a = 1 by omega]
 rfl
theorem rchar_at {k : Nat} (hk : 10 ≤ k) {s : List Nat} (hs : By s) (hl : Sz s) {a q : Nat} {t : List Nat} (hq : s.drop a = q :: t) : g27 k s (a : Int) = some ((chrN (s.drop a) : Nat) : Int) := by
 have tl := drop_len hq
 have dt := drop_step hq
 have hl' := hl
 unfold Sz at hl
 unfold g27
 rw [hq]
 cases t with
 | nil =>
  simp only [List.length_nil] at tl
  refine (jS (v := false) (fun j => ?_)).trans ?_
  ·simp (disch := omega) only [↓reduceIte, ↓jn, gsL]
  ·refine iF rfl ?_
   have nx := rnext_at (k := k) (by omega) hs hl' (a + 1)
   rw [dt] at nx
   rw [fw_s (by omega)]
   refine bS (by (try simp (disch := omega) only [fwI]); exact nx) ?_
   rfl
 | cons c r =>
  simp only [List.length_cons] at tl
  have c256 := hs c (drop_mem dt)
  have n1 : nthS s ((a + 1 : Nat) : Int) = some (c : Int) := nthX rfl dt
  rw [fw_s (by omega)]
  simp only [chrN]
  by_cases h92 : c = 92
  ·rw [if_pos h92]
   refine (jS (v := true) (fun j => ?_)).trans ?_
   ·refine iT (by first | (simp (disch := omega) only [↓reduceIte, ↓jn, gsL]; done) | rfl) ?_
    refine bS (by (try simp (disch := omega) only [fwI]); exact n1) ?_
    rw [dT (by omega)]
   ·refine iT rfl ?_
    have ea := rescape_at hk hs hl' (a + 1)
    rw [dt] at ea
    refine bS (by (try simp (disch := omega) only [fwI]); exact ea) ?_
    rcases escN_cases (c :: r) with h | ⟨v, n, h, h2, h3⟩
    ·rw [h]; rfl
    ·rw [h]
     simp only [List.length_cons] at h3
     have : (0 : Int) < ((n : Nat) : Int) := by omega
     simp only []
     rw [if_pos this]
     refine iT (dT (by omega)) ?_
     rw [fw_s (by omega), Int.toNat_natCast]
  ·rw [if_neg h92]
   refine (jS (v := false) (fun j => ?_)).trans ?_
   ·refine iT (by first | (simp (disch := omega) only [↓reduceIte, ↓jn, gsL]; done) | rfl) ?_
    refine bS (by (try simp (disch := omega) only [fwI]); exact n1) ?_
    rw [dF (by omega)]
   ·refine iF rfl ?_
    have nx := rnext_at (k := k) (by omega) hs hl' (a + 1)
    rw [dt] at nx
    refine bS (by (try simp (disch := omega) only [fwI]); exact nx) ?_
    by_cases h : (dec (c :: r)).1 ≤ 32 ∨ (dec (c :: r)).1 = 127
    ·have : ¬ (shwN (c :: r) ≠ 0 ∧ c ≠ 32) := by
      rintro ⟨h1, h2⟩
      apply h1
      unfold shwN
      rw [if_pos]
      by_cases h3 : c < 128
      ·rw [dec_ascii r h3] at h ⊢
       simp only [] at h ⊢
       omega
      ·rcases dec_big r h3 with h4 | h4 <;> omega
     rw [if_neg this]
     refine (jS (v := true) (fun j => ?_)).trans rfl
     by_cases h1 : (dec (c :: r)).1 ≤ 32
     ·refine iT (dT h1) rfl
     ·refine iF (dF h1) ?_
      rw [dT (by omega)]
    ·obtain ⟨n, n1', n2, n3, n4, -⟩ := dec_size (s := c :: r) (by simp)
     have sw : shwN (c :: r) = n := by unfold shwN; rw [if_neg (by omega), n1', Int.toNat_natCast]
     have c32 : c ≠ 32 := by
      intro e; subst e
      rw [dec_ascii r (by decide)] at h
      exact h (.inl (by decide))
     rw [sw, if_pos (show n ≠ 0 ∧ c ≠ 32 from ⟨by clear n1'; omega, c32⟩), n1']
     simp only [List.length_cons] at n4
     refine (jS (v := false) (fun j => ?_)).trans ?_
     ·refine iF (dF (by omega)) ?_
      rw [dF (by omega)]
     ·refine iF rfl ?_
      clear n1' nx
      rw [fw_s (by omega)]
end Go.Proofs.Ytokcjgjgojlhbaa.Am
set_option maxRecDepth 100000
set_option linter.unusedVariables false
set_option linter.unusedSimpArgs false
namespace Go.Proofs.Ytokcjgjgojlhbaa.Am
open Go
theorem run_no35 {b : Nat} (hb : b ≤ 99) : ∀ (p : Bool) (s : List Nat), 35 ∉ s.take (runN b p s)
 | _, [], h => by simp at h
 | p, c :: r, h => by
  simp only [runN] at h
  split at h
  ·rename_i hc
   rw [List.take_succ_cons] at h
   rcases List.mem_cons.1 h with e | e
   ·subst e
    have : dgN 35 = 99 := by decide
    omega
   ·exact run_no35 hb true r e
  ·split at h
   ·rename_i hc hp
    rw [List.take_succ_cons] at h
    rcases List.mem_cons.1 h with e | e
    ·subst e
     simp at hp
    ·exact run_no35 hb false r e
   ·simp at h
theorem front_35 {s : List Nat} (h : (frontN s).1 ≠ 0) : ∃ m r, (frontN s).1 = m + 1 ∧ s.drop m = 35 :: r ∧ runN 10 false s = m := by
 have d35 : ¬ dgN 35 < 10 := by decide
 revert h
 unfold frontN
 split
 ·rename_i a b r
  split
  ·rename_i ha
   split
   ·rename_i hb
    subst hb
    split
    ·intro _
     refine ⟨1, r, rfl, rfl, ?_⟩
     simp [runN, ha, d35]
    ·intro h; exact absurd rfl h
   ·split
    ·rename_i hb
     split
     ·rename_i c r'
      split
      ·rename_i hc
       obtain ⟨rfl, -⟩ := hc
       intro _
       refine ⟨2, r', rfl, rfl, ?_⟩
       simp [runN, ha, hb, d35]
      ·intro h; exact absurd rfl h
     ·intro h; exact absurd rfl h
    ·intro h; exact absurd rfl h
  ·intro h; exact absurd rfl h
 ·intro h; exact absurd rfl h
theorem hash_iff (s : List Nat) : (35 ∈ s.take (wholeN s)) ↔ ¬ ((frontN s).1 = 0 ∨ wholeN s < (frontN s).1) := by
 by_cases h : 0 < (frontN s).1 ∧ 0 < runN (frontN s).2 false (s.drop (frontN s).1)
 ·have hw : wholeN s = (frontN s).1 + runN (frontN s).2 false (s.drop (frontN s).1) := by unfold wholeN; rw [if_pos h]
  obtain ⟨m, r, h1, h2, -⟩ := front_35 (s := s) (by omega)
  constructor
  ·intro _; omega
  ·intro _
   rw [hw, h1]
   have dl := drop_len h2
   have : s.take (m + 1 + runN (frontN s).2 false (s.drop (m + 1))) = s.take m ++ (35 :: r.take (runN (frontN s).2 false (s.drop (m + 1)))) := by
    rw [Nat.add_assoc, List.take_add, h2, Nat.add_comm 1, List.take_succ_cons]
   rw [this]
   simp
 ·have hw : wholeN s = runN 10 false s := by unfold wholeN; rw [if_neg h]
  rw [hw]
  constructor
  ·intro hm; exact absurd hm (run_no35 (by decide) false s)
  ·intro hn
   exfalso
   apply hn
   by_cases h0 : (frontN s).1 = 0
   ·exact .inl h0
   ·right
    obtain ⟨m, r, h1, h2, h3⟩ := front_35 h0
    omega
theorem rnum_l (k : Nat) {s : List Nat} (hl : Sz s) (c11 : Unit → Option (S28 × Int)) {a w : Nat} (ha : a + w ≤ s.length) (kind : Int) : ∀ (f i : Nat) (b : Bool), a + w < i + f → i ≤ a + w →
 g23_l9 k c11 s (a : Int) (kind, (w : Int)) f b (i : Int) = if b = true ∨ 35 ∈ (s.drop i).take (a + w - i) then c11 () else some (tok0, 4)
 | 0, i, b, h, h2 => by omega
 | f + 1, i, b, h, h2 => by
  have hl' := hl
  unfold Sz at hl
  rw [g23_l9_s]
  show (if decide ((i : Int) < fW .i64 ((a : Int) + (w : Int))) then _ else _) = _
  rw [fw_a (by omega) (by omega)]
  rcases Nat.lt_or_ge i (a + w) with hi | hi
  ·obtain ⟨c, r, hc, hr, hm, hrl⟩ := dcons (s := s) (i := i) (by omega)
   have nc := nthX (x := (i : Int)) rfl hc
   refine iT (dT (by omega)) ?_
   have ih := rnum_l k hl' c11 ha kind f (i + 1) (b || decide (c = 35)) (by omega) (by omega)
   refine (jS (v := (b || decide (c = 35), (i : Int))) (fun j => ?_)).trans ?_
   ·cases b with
    | true => rfl
    | false =>
     refine iF rfl ?_
     refine bS (by (try simp (disch := omega) only [fwI]); exact nc) ?_
     congr 2
     rw [Bool.eq_iff_iff]; simp; omega
   ·show g23_l9 k c11 s (a : Int) (kind, (w : Int)) f (b || decide (c = 35)) (fW .i64 ((i : Int) + 1)) = _
    rw [fw_s (by omega)]
    refine ih.trans ?_
    rw [hr, hc, show a + w - i = (a + w - (i + 1)) + 1 by omega, List.take_succ_cons]
    have : ((b || decide (c = 35)) = true ∨ 35 ∈ r.take (a + w - (i + 1))) ↔ (b = true ∨ 35 ∈ c :: r.take (a + w - (i + 1))) := by
     rw [List.mem_cons, Bool.or_eq_true, decide_eq_true_eq]
     constructor
     ·rintro ((h | h) | h)
      ·exact .inl h
      ·exact .inr (.inl h.symm)
      ·exact .inr (.inr h)
     ·rintro (h | h | h)
      ·exact .inl (.inl h)
      ·exact .inl (.inr h.symm)
      ·exact .inr h
    simp only [this]
  ·refine iF (dF (by omega)) ?_
   rw [show a + w - i = 0 by omega, List.take_zero]
   cases b <;> simp <;> rfl
theorem rnumber_at {k : Nat} {s : List Nat} (hk : s.length + 4 < k) (hs : By s) (hl : Sz s) {a : Nat} (ha : a ≤ s.length) : g23 k s (a : Int) = some (if (numN (s.drop a)).1 = 0 then (tok0, 4) else (mkTok s ((numN (s.drop a)).2, a, (numN (s.drop a)).1), 0)) := by
 have hl' := hl
 unfold Sz at hl
 unfold g23
 refine bS (by (try simp (disch := omega) only [fwI]); exact rbroken_at (by omega) hs hl' ha) ?_
 have pl := partN_le (s.drop a)
 have wl := wholeN_le (s.drop a)
 rw [List.length_drop] at pl wl
 have hi := hash_iff (s.drop a)
 have key : ∀ (n kind : Nat), n ≤ s.length - a → (kind = 4 ∧ n ≠ 0 ∨ kind = 3 ∧ n = wholeN (s.drop a)) →
  (jn (fun (z7 : Bool) => if z7 then (some ((⟨(0 : Int), ([] : List Nat), (0 : Int)⟩ : S28), (4 : Int))) else (jn (fun (z8 : Bool) => jn (fun (z11 : Unit) => (subL s (some (a : Int)) (some (fW .i64 ((a : Int) + (n : Int))))).bind fun x4_4 => some ((⟨(kind : Int), x4_4, (a : Int)⟩ : S28), (0 : Int))) (fun j11 => if z8 then (g23_l9 k j11 s (a : Int) ((kind : Int), (n : Int)) k false (a : Int)) else (j11 ()))) (fun j8 => if (decide ((kind : Int) = 3)) then (if (decide (fW .i64 ((a : Int) + (n : Int)) < (s.length : Int))) then ((nthS s (fW .i64 ((a : Int) + (n : Int)))).bind fun x3_11 => j8 (decide (x3_11 = 35))) else (j8 false)) else (j8 false)))) (fun j7 => if (decide ((n : Int) = 0)) then (j7 true) else (if (decide (fW .i64 ((a : Int) + (n : Int)) < (s.length : Int))) then ((nthS s (fW .i64 ((a : Int) + (n : Int)))).bind fun x2_10 => (g45 k x2_10).bind fun x2_11 => j7 x2_11) else (j7 false))))
  = some (if (if kind = 3 ∧ hashN (s.drop a) n = true then (0, 0) else endN (s.drop a) n kind).1 = 0 then (tok0, 4) else (mkTok s ((if kind = 3 ∧ hashN (s.drop a) n = true then (0, 0) else endN (s.drop a) n kind).2, a, (if kind = 3 ∧ hashN (s.drop a) n = true then (0, 0) else endN (s.drop a) n kind).1), 0)) := by
  intro n kind hn hkind
  rw [fw_a (n := a) (m := n) (by omega) (by omega)]
  have out : (subL s (some (a : Int)) (some ((a + n : Nat) : Int))).bind (fun x4_4 => some ((⟨(kind : Int), x4_4, (a : Int)⟩ : S28), (0 : Int))) = some (mkTok s (kind, a, n), 0) := by
   refine bS (by (try simp (disch := omega) only [fwI]); exact subMid (s := s) (i := a) (j := a + n) rfl rfl (by omega) (by omega)) ?_
   rw [List.drop_take, Nat.add_sub_cancel_left]; rfl
  by_cases h0 : n = 0
  ·subst h0
   refine (jS (v := true) (fun j => rfl)).trans ?_
   refine iT rfl ?_
   rw [if_pos]
   ·rfl
   ·by_cases hh : kind = 3 ∧ hashN (s.drop a) 0 = true
    ·rw [if_pos hh]
    ·rw [if_neg hh]; unfold endN; split
     ·split <;> rfl
     ·rfl
  ·rcases Nat.lt_or_ge (a + n) s.length with h | h
   ·obtain ⟨c, r, hc, hr, hm, hrl⟩ := dcons h
    have nc := nthX (x := ((a + n : Nat) : Int)) rfl hc
    have hc' : (s.drop a).drop n = c :: r := by rw [List.drop_drop]; exact hc
    refine (jS (v := inrN c) (fun j => ?_)).trans ?_
    ·refine iF (dF (by omega)) ?_
     refine iT (dT (by omega)) ?_
     refine bS (by (try simp (disch := omega) only [fwI]); exact nc) ?_
     refine bS (by (try simp (disch := omega) only [fwI]); exact inner_at45 k (hs c hm)) ?_
     rfl
    ·cases hin : inrN c with
     | true =>
      refine iT rfl ?_
      rw [if_pos]
      ·rfl
      ·by_cases hh : kind = 3 ∧ hashN (s.drop a) n = true
       ·rw [if_pos hh]
       ·rw [if_neg hh]; unfold endN; rw [hc']; simp only [hin, if_true]
     | false =>
      refine iF rfl ?_
      have he : endN (s.drop a) n kind = (n, kind) := by unfold endN; rw [hc']; simp only [hin, Bool.false_eq_true, if_false]
      rw [he]
      by_cases h35 : kind = 3 ∧ c = 35
      ·obtain ⟨rfl, rfl⟩ := h35
       have hw : n = wholeN (s.drop a) := by
        rcases hkind with h | h
        ·omega
        ·exact h.2
       refine (jS (v := true) (fun j => ?_)).trans ?_
       ·refine iT rfl ?_
        refine iT (dT (by omega)) ?_
        refine bS (by (try simp (disch := omega) only [fwI]); exact nc) ?_
        rfl
       ·have hh : hashN (s.drop a) n = decide ((frontN (s.drop a)).1 = 0 ∨ n < (frontN (s.drop a)).1) := by
         unfold hashN; rw [hc']; rw [Bool.eq_iff_iff]; simp
        rw [← hw] at hi
        have lp := fun c11 => rnum_l k hl' c11 (a := a) (w := n) (by omega) 3 k a false (by omega) (by omega)
        rw [show a + n - a = n by omega] at lp
        by_cases hb : 35 ∈ (s.drop a).take n
        ·have : hashN (s.drop a) n = false := by rw [hh]; exact decide_eq_false (hi.1 hb)
         rw [this]
         refine (jS (v := ()) (fun j => ?_)).trans ?_
         ·refine iT rfl ?_
          refine (lp j).trans ?_
          rw [if_pos (.inr hb)]
         ·refine out.trans ?_
          simp only [Bool.false_eq_true, and_false, if_false]
          rw [if_neg h0]
        ·have : hashN (s.drop a) n = true := by
          rw [hh]; refine decide_eq_true ?_
          by_cases h1 : (frontN (s.drop a)).1 = 0 ∨ n < (frontN (s.drop a)).1
          ·exact h1
          ·exact absurd (hi.2 h1) hb
         rw [this]
         refine jC fun j => ?_
         refine iT rfl ?_
         refine (lp j).trans ?_
         rw [if_neg (by rintro (h | h); exact absurd h (by decide); exact hb h)]
         rfl
      ·have hnh : ¬ (kind = 3 ∧ hashN (s.drop a) n = true) := by
        rintro ⟨h1, h2⟩
        unfold hashN at h2
        rw [hc'] at h2
        simp only [Bool.and_eq_true, decide_eq_true_eq] at h2
        exact h35 ⟨h1, h2.1⟩
       rw [if_neg hnh]
       refine (jS (v := false) (fun j => ?_)).trans ?_
       ·rcases hkind with ⟨rfl, -⟩ | ⟨rfl, -⟩
        ·rfl
        ·refine iT rfl ?_
         refine iT (dT (by omega)) ?_
         refine bS (by (try simp (disch := omega) only [fwI]); exact nc) ?_
         rw [dF (by omega)]
       ·refine (jS (v := ()) (fun j => rfl)).trans ?_
        refine out.trans ?_
        rw [if_neg h0]
   ·have hc' : (s.drop a).drop n = [] := by rw [List.drop_drop]; exact dnil h
    have he : endN (s.drop a) n kind = (n, kind) := by unfold endN; rw [hc']
    have hh : hashN (s.drop a) n = false := by unfold hashN; rw [hc']
    rw [he, hh]
    simp only [Bool.false_eq_true, and_false, if_false]
    rw [if_neg h0]
    refine (jS (v := false) (fun j => ?_)).trans ?_
    ·refine iF (dF (by omega)) ?_
     refine iF (dF (by omega)) rfl
    ·refine iF rfl ?_
     refine (jS (v := false) (fun j => ?_)).trans ?_
     ·rcases hkind with ⟨rfl, -⟩ | ⟨rfl, -⟩
      ·rfl
      ·refine iT rfl ?_
       refine iF (dF (by omega)) rfl
     ·exact (jS (v := ()) (fun j => rfl)).trans out
 unfold numN
 by_cases h0 : partN (s.drop a) = 0
 ·rw [if_pos h0]
  refine (jS (v := ((3 : Int), (wholeN (s.drop a) : Int))) (fun j => ?_)).trans ?_
  ·refine iT (dT (by omega)) ?_
   refine bS (by (try simp (disch := omega) only [fwI]); exact rwhole_at (by omega) (by omega) hs hl' ha) ?_
   rfl
  ·refine (key (wholeN (s.drop a)) 3 wl (.inr ⟨rfl, rfl⟩)).trans ?_
   simp only [true_and]
 ·rw [if_neg h0]
  refine (jS (v := ((4 : Int), (partN (s.drop a) : Int))) (fun j => ?_)).trans ?_
  ·refine iF (dF (by omega)) rfl
  ·refine (key (partN (s.drop a)) 4 pl (.inl ⟨rfl, h0⟩)).trans ?_
   rfl
end Go.Proofs.Ytokcjgjgojlhbaa.Am
set_option maxRecDepth 100000
set_option linter.unusedVariables false
set_option linter.unusedSimpArgs false
namespace Go.Proofs.Ytokcjgjgojlhbaa.Am
open Go
theorem vld_nil (n : Nat) : vld n [] = true := by cases n <;> rfl
theorem vld_cons {n : Nat} {s : List Nat} (h : s ≠ []) : vld (n + 1) s = if (dec s).1 < 0 then false else vld n (s.drop (dec s).2.toNat) := by
 cases s with
 | nil => exact absurd rfl h
 | cons c r => rfl
theorem vld_more : ∀ (n m : Nat) (s : List Nat), s.length ≤ n → s.length ≤ m → vld n s = vld m s
 | 0, m, s, h1, h2 => by
  have : s = [] := List.eq_nil_of_length_eq_zero (by omega)
  rw [this, vld_nil, vld_nil]
 | n + 1, 0, s, h1, h2 => by
  have : s = [] := List.eq_nil_of_length_eq_zero (by omega)
  rw [this, vld_nil, vld_nil]
 | n + 1, m + 1, s, h1, h2 => by
  by_cases hs : s = []
  ·rw [hs, vld_nil, vld_nil]
  ·obtain ⟨q, n1, n2, n3, n4, n5⟩ := dec_size hs
   rw [vld_cons hs, vld_cons hs, n1]
   have := vld_more n m (s.drop q) (by rw [List.length_drop]; clear n1; omega) (by rw [List.length_drop]; clear n1; omega)
   simp only [Int.toNat_natCast]
   rw [this]
end Go.Proofs.Ytokcjgjgojlhbaa.Am
set_option maxRecDepth 100000
set_option linter.unusedVariables false
set_option linter.unusedSimpArgs false
namespace Go.Proofs.Ytokcjgjgojlhbaa.Am
open Go
theorem enc_dec {c : Nat} (h : cpN c = true) (r : List Nat) : dec (enc c ++ r) = ((c : Int), ((enc c).length : Int)) := by
 have hle := cp_le h
 have hd : ∀ c r, dec (c :: r) = if (leadN c).1 = 0 then (-1, 1) else fitN (leadN c).1 (moreN ((leadN c).1 - 1) (leadN c).2 r) := fun _ _ => rfl
 have m1 : ∀ n c b r, moreN (n + 1) c (b :: r) = if b / 64 = 2 then moreN n (c * 64 + b % 64) r else none := fun _ _ _ _ => rfl
 have m0 : ∀ c r, moreN 0 c r = some c := fun _ _ => rfl
 unfold enc
 by_cases h1 : c < 128
 ·rw [if_pos h1]
  have hL : leadN c = (1, c) := by unfold leadN; rw [if_pos h1]
  rw [List.cons_append, hd, hL]
  show fitN 1 (some c) = _
  unfold fitN
  simp only []
  rw [if_pos ⟨by simp [leastN], h⟩]
  rfl
 ·rw [if_neg h1]
  by_cases h2 : c < 2048
  ·rw [if_pos h2]
   have hL : leadN (192 + c / 64) = (2, c / 64) := by
    unfold leadN; rw [if_neg (by omega), if_pos (by omega)]
    rw [show (192 + c / 64) % 32 = c / 64 from by omega]
   rw [List.cons_append, hd, hL]
   show fitN 2 (moreN 1 (c / 64) ([128 + c % 64] ++ r)) = _
   rw [List.cons_append, m1, if_pos (by omega), m0, show c / 64 * 64 + (128 + c % 64) % 64 = c from by omega]
   unfold fitN
   simp only []
   rw [if_pos ⟨by simp [leastN]; omega, h⟩]
   rfl
  ·rw [if_neg h2]
   by_cases h3 : c < 65536
   ·rw [if_pos h3]
    have hL : leadN (224 + c / 4096) = (3, c / 4096) := by
     unfold leadN; rw [if_neg (by omega), if_neg (by omega), if_pos (by omega)]
     rw [show (224 + c / 4096) % 16 = c / 4096 from by omega]
    rw [List.cons_append, hd, hL]
    show fitN 3 (moreN 2 (c / 4096) ([128 + c / 64 % 64, 128 + c % 64] ++ r)) = _
    rw [List.cons_append, m1, if_pos (by omega), List.cons_append, m1, if_pos (by omega), m0, show (c / 4096 * 64 + (128 + c / 64 % 64) % 64) * 64 + (128 + c % 64) % 64 = c from by omega]
    unfold fitN
    simp only []
    rw [if_pos ⟨by simp [leastN]; omega, h⟩]
    rfl
   ·rw [if_neg h3]
    have hL : leadN (240 + c / 262144) = (4, c / 262144) := by
     unfold leadN; rw [if_neg (by omega), if_neg (by omega), if_neg (by omega), if_pos (by omega)]
     rw [show (240 + c / 262144) % 8 = c / 262144 from by omega]
    rw [List.cons_append, hd, hL]
    show fitN 4 (moreN 3 (c / 262144) ([128 + c / 4096 % 64, 128 + c / 64 % 64, 128 + c % 64] ++ r)) = _
    rw [List.cons_append, m1, if_pos (by omega), List.cons_append, m1, if_pos (by omega), List.cons_append, m1, if_pos (by omega), m0, show ((c / 262144 * 64 + (128 + c / 4096 % 64) % 64) * 64 + (128 + c / 64 % 64) % 64) * 64 + (128 + c % 64) % 64 = c from by omega]
    unfold fitN
    simp only []
    rw [if_pos ⟨by simp [leastN]; omega, h⟩]
    rfl
theorem enc_len (c : Nat) : 1 ≤ (enc c).length ∧ (enc c).length ≤ 4 := by
 unfold enc; repeat' split
 all_goals simp
theorem enc_bytes {c : Nat} (h : cpN c = true) : ∀ b ∈ enc c, b < 256 := by
 have hle := cp_le h
 intro b hb
 unfold enc at hb
 split at hb
 ·simp at hb; omega
 ·split at hb
  ·simp at hb; omega
  ·split at hb
   ·simp at hb; omega
   ·simp at hb; omega
end Go.Proofs.Ytokcjgjgojlhbaa.Am
set_option maxRecDepth 100000
set_option linter.unusedVariables false
set_option linter.unusedSimpArgs false
namespace Go.Proofs.Ytokcjgjgojlhbaa.Am
open Go
def V (s : List Nat) : Bool := vld s.length s
theorem V_cons {s : List Nat} (h : s ≠ []) : V s = if (dec s).1 < 0 then false else V (s.drop (dec s).2.toNat) := by
 obtain ⟨n, n1, n2, n3, n4, -⟩ := dec_size h
 unfold V
 obtain ⟨m, hm⟩ : ∃ m, s.length = m + 1 := ⟨s.length - 1, by clear n1; omega⟩
 rw [hm, vld_cons h, n1, Int.toNat_natCast, vld_more m (s.drop n).length (s.drop n) (by rw [List.length_drop]; clear n1; omega) (Nat.le_refl _)]
theorem V_ascii {c : Nat} (r : List Nat) (h : c < 128) : V (c :: r) = V r := by
 rw [V_cons (by simp), dec_ascii r h, if_neg (by show ¬ (c : Int) < 0; omega)]; rfl
theorem skip_step {s : List Nat} {c : Nat} {r : List Nat} (h : s = c :: r) (hb : blkN c = false) : skipN s = 0 := by
 subst h; simp only [skipN, hb, Bool.false_eq_true, if_false]
def Toks (s : List Nat) : Nat → List (Nat × Nat × Nat) → Prop
 | a, [] => s.length ≤ a + skipN (s.drop a)
 | a, x :: l => x.2.1 = a + skipN (s.drop a) ∧ x.2.1 < s.length ∧ oneN (s.drop x.2.1) = (x.2.2, x.1) ∧ x.2.2 ≠ 0 ∧ Toks s (x.2.1 + x.2.2) l
theorem toks_iff (s : List Nat) : ∀ (f a : Nat) (l : List (Nat × Nat × Nat)), s.length < a + f → (toksN s f a = some l ↔ Toks s a l)
 | 0, a, l, h => by
  have hd : s.drop a = [] := dnil (by omega)
  simp only [toksN]
  cases l with
  | nil => simp only [Toks, hd, skipN]; simp; omega
  | cons x l =>
   simp only [Toks, hd, skipN]
   constructor
   ·intro h; cases h
   ·rintro ⟨h1, h2, -⟩; omega
 | f + 1, a, l, h => by
  have ih := fun a' l' hh => toks_iff s f a' l' hh
  unfold toksN
  by_cases hb : s.length ≤ a + skipN (s.drop a)
  ·rw [if_pos hb]
   cases l with
   | nil => simp only [Toks]; simp [hb]
   | cons x l =>
    simp only [Toks]
    constructor
    ·intro h; cases h
    ·rintro ⟨h1, h2, -⟩; omega
  ·rw [if_neg hb]
   by_cases h0 : (oneN (s.drop (a + skipN (s.drop a)))).1 = 0
   ·rw [if_pos h0]
    cases l with
    | nil => simp only [Toks]; simp; omega
    | cons x l =>
     simp only [Toks]
     constructor
     ·intro h; cases h
     ·rintro ⟨h1, h2, h3, h4, -⟩
      rw [← h1, h3] at h0
      exact absurd h0 h4
   ·rw [if_neg h0]
    cases l with
    | nil =>
     simp only [Toks]
     constructor
     ·intro h
      cases ht : toksN s f (a + skipN (s.drop a) + (oneN (s.drop (a + skipN (s.drop a)))).1) with
      | none => rw [ht] at h; cases h
      | some l => rw [ht] at h; cases h
     ·intro h; exact absurd h hb
    | cons x l =>
     obtain ⟨k, b, n⟩ := x
     simp only [Toks]
     constructor
     ·intro h
      cases ht : toksN s f (a + skipN (s.drop a) + (oneN (s.drop (a + skipN (s.drop a)))).1) with
      | none => rw [ht] at h; cases h
      | some l' =>
       rw [ht] at h
       cases h
       refine ⟨rfl, by omega, rfl, h0, ?_⟩
       exact (ih _ _ (by have := Nat.pos_of_ne_zero h0; omega)).1 ht
     ·rintro ⟨rfl, h2, h3, h4, h5⟩
      have e1 : (oneN (s.drop (a + skipN (s.drop a)))).1 = n := by rw [h3]
      have e2 : (oneN (s.drop (a + skipN (s.drop a)))).2 = k := by rw [h3]
      rw [e1, e2, (ih _ _ (by have := Nat.pos_of_ne_zero h4; omega)).2 h5]
      rfl
theorem scan_some {s : List Nat} (h16 : s.length ≤ 65536) (hv : V s = true) {l : List (Nat × Nat × Nat)} (h : Toks s 0 l) : scanN s = (l.map (mkTok s), 0) := by
 unfold scanN
 unfold V at hv
 rw [if_neg (by omega), hv, if_neg (by decide), (toks_iff s (s.length + 1) 0 l (by omega)).2 h]
end Go.Proofs.Ytokcjgjgojlhbaa.Am
set_option maxRecDepth 100000
set_option linter.unusedVariables false
namespace Go.Proofs.Ytokcjgjgojlhbaa.Am
noncomputable section
open Go
def X16 : Fx Int := ⟨Try.prog, cx, Try.f16, fun r => .int .i64 r, 0, fun _ => H0, cxTi, cxOrd⟩
def g16p0 : Pt := nav [0] (bodyAt Try.f16)
def g16p1 : Pt := nav [0, 0, 0, 0] g16p0
def g16p2 : Pt := nav [0, 0, 0, 0] g16p1
def g16p3 : Pt := nav [0, 0, 0] g16p2
def g16p4 : Pt := nav [0, 0] g16p3
def g16_l1 (k : Nat)  (a0 : (List Nat)) (n : Nat) : Int → Option Int :=
 Nat.rec (motive := fun _ => Int → Option Int) (fun _ => none) (fun _ ih => fun (y1_0 : Int) => jn (fun (z2 : Bool × Int) => if z2.1 then (ih (fW .i64 (z2.2 + 1))) else (some (minI z2.2 (a0.length : Int)))) (fun j2 => if (decide (y1_0 < (a0.length : Int))) then ((nthS a0 y1_0).bind fun x0_7 => (g30 k x0_7).bind fun x0_8 => j2 (x0_8, y1_0)) else (j2 (false, y1_0)))) n
theorem g16_l1_s (k : Nat)  (a0 : (List Nat)) (n : Nat) (y1_0 : Int) : g16_l1 k a0 (n + 1) y1_0 = (jn (fun (z2 : Bool × Int) => if z2.1 then ((g16_l1 k a0 n) (fW .i64 (z2.2 + 1))) else (some (minI z2.2 (a0.length : Int)))) (fun j2 => if (decide (y1_0 < (a0.length : Int))) then ((nthS a0 y1_0).bind fun x0_7 => (g30 k x0_7).bind fun x0_8 => j2 (x0_8, y1_0)) else (j2 (false, y1_0)))) := rfl
theorem g16_l1_ok (k : Nat)  (a0 : (List Nat))  : ∀ (n : Nat) (y1_0 : Int), Ok X16 g16p2 [(0, .str a0), (1, .int .i64 y1_0)] (mkH []) (g16_l1 k a0 n y1_0)
 | 0, _ => ok_none
 | n + 1, y1_0 => by
  have ih := g16_l1_ok k a0 n
  rw [g16_l1_s]
  refine ok_ent (p' := nav [0] g16p2) (by kernel_rfl) ?_
  let E2 : Env := [(11, .bool (decide (y1_0 < (a0.length : Int)))), (10, .bool (decide (y1_0 < (a0.length : Int)))), (9, .int .i64 (a0.length : Int)), (8, .str a0), (7, .int .i64 y1_0), (0, .str a0), (1, .int .i64 y1_0)]
  refine oR 8 (p' := (atN 5 (ctl1 g16p3))) (eE := E2) (H' := (mkH [])) (by kernel_rfl) ?_
  refine oJ (f := fun (z2 : Bool × Int) => if z2.1 then ((g16_l1 k a0 n) (fW .i64 (z2.2 + 1))) else (some (minI z2.2 (a0.length : Int)))) g16p4 (fun (z2 : Bool × Int) => [(0, .str a0), (1, .int .i64 z2.2), (16, .bool z2.1)]) (fun (z2 : Bool × Int) => (mkH [])) (fun z2 => ?_) (fun j2 hj2 => ?_)
  ·refine oS 16 (b := z2.1) (by kernel_rfl) (fun hb => ?_) (fun hb => ?_)
   ·let E3 : Env := [(1, .int .i64 (fW .i64 (z2.2 + 1))), (18, .int .i64 (fW .i64 (z2.2 + 1))), (17, .int .i64 z2.2), (16, .bool true), (0, .str a0), (1, .int .i64 z2.2), (16, .bool z2.1)]
    refine oR 10 (p' := g16p2) (eE := E3) (H' := (mkH [])) (by kernel_rfl) ?_
    refine oK [0, 1] (eE := [(0, .str a0), (1, .int .i64 (fW .i64 (z2.2 + 1)))]) (by kernel_rfl) ?_
    exact ih (fW .i64 (z2.2 + 1))
   ·let E4 : Env := [(4, .int .i64 (minI z2.2 (a0.length : Int))), (22, .int .i64 (minI z2.2 (a0.length : Int))), (21, .int .i64 (a0.length : Int)), (20, .str a0), (19, .int .i64 z2.2), (16, .bool false), (0, .str a0), (1, .int .i64 z2.2), (16, .bool z2.1)]
    refine oR 11 (p' := .fin) (eE := E4) (H' := (mkH [])) (by kernel_rfl) ?_
    exact oT (r := (minI z2.2 (a0.length : Int))) (xs := [.int .i64 (minI z2.2 (a0.length : Int))]) (v := .int .i64 (minI z2.2 (a0.length : Int))) (by kernel_rfl) (by kernel_rfl) (by kernel_rfl) (.pures (by kernel_rfl)) (by kernel_rfl)
  ·refine oS 11 (b := decide (y1_0 < (a0.length : Int))) (by kernel_rfl) (fun hb => ?_) (fun hb => ?_)
   ·refine oR 2 (p' := (atN 7 (ctl1 g16p3))) (eE := ((13, .int .i64 y1_0) :: (12, .str a0) :: (11, .bool true) :: E2)) (H' := (mkH [])) (by kernel_rfl) ?_
    refine oH (fun (x0_7 : Int) => (.int .u8 x0_7, (mkH []))) (atN 8 (ctl1 g16p3)) (fun x0_7 => ((14, .int .u8 x0_7) :: (13, .int .i64 y1_0) :: (12, .str a0) :: (11, .bool true) :: E2)) (idxH (by kernel_rfl)) (fun _ => by kernel_rfl) (fun x0_7 hx0_7 => ?_)
    refine oC (fun (x0_8 : Bool) => .bool x0_8) (atN 9 (ctl1 g16p3)) (fun x0_8 => ((15, .bool x0_8) :: (14, .int .u8 x0_7) :: (13, .int .i64 y1_0) :: (12, .str a0) :: (11, .bool true) :: E2)) (fi := 30) (args := [.int .u8 x0_7]) (by kernel_rfl) (by kernel_rfl) (fun _ => by kernel_rfl) (fun r h => g30_ok k x0_7 r h) (fun _ => by kernel_rfl) (fun x0_8 hx0_8 => ?_)
    let E5 : Env := ((16, .bool x0_8) :: (15, .bool x0_8) :: (14, .int .u8 x0_7) :: (13, .int .i64 y1_0) :: (12, .str a0) :: (11, .bool true) :: E2)
    refine oR 2 (p' := g16p4) (eE := E5) (H' := (mkH [])) (by kernel_rfl) ?_
    refine oK [0, 1, 16] (eE := [(0, .str a0), (1, .int .i64 y1_0), (16, .bool x0_8)]) (by kernel_rfl) ?_
    exact hj2 (x0_8, y1_0)
   ·let E6 : Env := ((16, .bool false) :: (15, .tuple []) :: (14, .tuple []) :: (13, .tuple []) :: (12, .tuple []) :: (11, .bool false) :: E2)
    refine oR 6 (p' := g16p4) (eE := E6) (H' := (mkH [])) (by kernel_rfl) ?_
    refine oK [0, 1, 16] (eE := [(0, .str a0), (1, .int .i64 y1_0), (16, .bool false)]) (by kernel_rfl) ?_
    exact hj2 (false, y1_0)
def g16 (k : Nat) (a0 : (List Nat)) (a1 : Int) : Option Int :=
 g16_l1 k a0 k (maxI a1 0)
theorem g16_ok (k : Nat) (a0 : (List Nat)) (a1 : Int) (r : Int) (h : g16 k a0 a1 = some r) : PureOk Try.prog 16 [.str a0, .int .i64 a1] (.int .i64 r) := by
 refine pure_of X16 (fun _ => rfl) Try.func16 (by decide +kernel) (by kernel_rfl) (t := g16 k a0 a1) ?_ h
 unfold g16
 refine oE (eE := [(0, .str a0), (1, .int .i64 a1)]) (by kernel_rfl) ?_
 let E1 : Env := [(1, .int .i64 (maxI a1 0)), (6, .int .i64 (maxI a1 0)), (5, .int .i64 a1), (4, .int .i64 0), (0, .str a0), (1, .int .i64 a1)]
 refine oR 13 (p' := g16p2) (eE := E1) (H' := (mkH [])) (by kernel_rfl) ?_
 refine oK [0, 1] (eE := [(0, .str a0), (1, .int .i64 (maxI a1 0))]) (by kernel_rfl) ?_
 exact (g16_l1_ok k a0 k) (maxI a1 0)
end
end Go.Proofs.Ytokcjgjgojlhbaa.Am
set_option maxRecDepth 100000
set_option linter.unusedVariables false
namespace Go.Proofs.Ytokcjgjgojlhbaa.Am
noncomputable section
open Go
def X33 : Fx Int := ⟨Try.prog, cx, Try.f33, fun r => .int .i64 r, 0, fun _ => H0, cxTi, cxOrd⟩
def g33p0 : Pt := nav [0] (bodyAt Try.f33)
def g33p1 : Pt := nav [0, 0, 0] g33p0
def g33p2 : Pt := nav [0, 0, 0, 0, 0] g33p1
def g33p3 : Pt := nav [0, 0, 0] g33p2
def g33p4 : Pt := nav [0, 0] g33p3
def g33p6 : Pt := nav [2, 0, 0, 0, 0] g33p4
def g33p7 : Pt := nav [0, 0, 0] g33p6
def g33p8 : Pt := nav [0, 0] g33p7
def g33_l4 (k : Nat)  (a0 : (List Nat)) (n : Nat) : Int → Option Int :=
 Nat.rec (motive := fun _ => Int → Option Int) (fun _ => none) (fun _ ih => fun (y4_0 : Int) => (nthS a0 (fW .i64 (y4_0 - 1))).bind fun x1_3 => (g30 k x1_3).bind fun x1_4 => if x1_4 then (ih (fW .i64 (y4_0 - 1))) else (some y4_0)) n
theorem g33_l4_s (k : Nat)  (a0 : (List Nat)) (n : Nat) (y4_0 : Int) : g33_l4 k a0 (n + 1) y4_0 = ((nthS a0 (fW .i64 (y4_0 - 1))).bind fun x1_3 => (g30 k x1_3).bind fun x1_4 => if x1_4 then ((g33_l4 k a0 n) (fW .i64 (y4_0 - 1))) else (some y4_0)) := rfl
theorem g33_l4_ok (k : Nat)  (a0 : (List Nat))  : ∀ (n : Nat) (y4_0 : Int), Ok X33 g33p6 [(0, .str a0), (3, .int .i64 y4_0)] (mkH []) (g33_l4 k a0 n y4_0)
 | 0, _ => ok_none
 | n + 1, y4_0 => by
  have ih := g33_l4_ok k a0 n
  rw [g33_l4_s]
  refine ok_ent (p' := nav [0] g33p6) (by kernel_rfl) ?_
  let E3 : Env := [(18, .int .i64 (fW .i64 (y4_0 - 1))), (17, .int .i64 y4_0), (16, .str a0), (0, .str a0), (3, .int .i64 y4_0)]
  refine oR 6 (p' := (atN 3 (ctl1 g33p7))) (eE := E3) (H' := (mkH [])) (by kernel_rfl) ?_
  refine oH (fun (x1_3 : Int) => (.int .u8 x1_3, (mkH []))) (atN 4 (ctl1 g33p7)) (fun x1_3 => ((19, .int .u8 x1_3) :: E3)) (idxH (by kernel_rfl)) (fun _ => by kernel_rfl) (fun x1_3 hx1_3 => ?_)
  refine oC (fun (x1_4 : Bool) => .bool x1_4) (atN 5 (ctl1 g33p7)) (fun x1_4 => ((20, .bool x1_4) :: (19, .int .u8 x1_3) :: E3)) (fi := 30) (args := [.int .u8 x1_3]) (by kernel_rfl) (by kernel_rfl) (fun _ => by kernel_rfl) (fun r h => g30_ok k x1_3 r h) (fun _ => by kernel_rfl) (fun x1_4 hx1_4 => ?_)
  refine oR 1 (p' := g33p8) (eE := ((20, .bool x1_4) :: (19, .int .u8 x1_3) :: E3)) (H' := (mkH [])) (by kernel_rfl) ?_
  refine oS 20 (b := x1_4) (by kernel_rfl) (fun hb => ?_) (fun hb => ?_)
  ·let E4 : Env := ((3, .int .i64 (fW .i64 (y4_0 - 1))) :: (22, .int .i64 (fW .i64 (y4_0 - 1))) :: (21, .int .i64 y4_0) :: (20, .bool true) :: (20, .bool x1_4) :: (19, .int .u8 x1_3) :: E3)
   refine oR 8 (p' := g33p6) (eE := E4) (H' := (mkH [])) (by kernel_rfl) ?_
   refine oK [0, 3] (eE := [(0, .str a0), (3, .int .i64 (fW .i64 (y4_0 - 1)))]) (by kernel_rfl) ?_
   exact ih (fW .i64 (y4_0 - 1))
  ·let E5 : Env := ((2, .int .i64 y4_0) :: (23, .int .i64 y4_0) :: (20, .bool false) :: (20, .bool x1_4) :: (19, .int .u8 x1_3) :: E3)
   refine oR 8 (p' := .fin) (eE := E5) (H' := (mkH [])) (by kernel_rfl) ?_
   exact oT (r := y4_0) (xs := [.int .i64 y4_0]) (v := .int .i64 y4_0) (by kernel_rfl) (by kernel_rfl) (by kernel_rfl) (.pures (by kernel_rfl)) (by kernel_rfl)
def g33_l2 (k : Nat)  (a0 : (List Nat)) (n : Nat) : Int → Option Int :=
 Nat.rec (motive := fun _ => Int → Option Int) (fun _ => none) (fun _ ih => fun (y2_0 : Int) => jn (fun (z3 : Bool × Int) => if z3.1 then (ih (fW .i64 (z3.2 + 1))) else (g33_l4 k a0 k z3.2)) (fun j3 => if (decide (y2_0 < (a0.length : Int))) then ((nthS a0 y2_0).bind fun x0_7 => j3 (!decide (x0_7 = 10), y2_0)) else (j3 (false, y2_0)))) n
theorem g33_l2_s (k : Nat)  (a0 : (List Nat)) (n : Nat) (y2_0 : Int) : g33_l2 k a0 (n + 1) y2_0 = (jn (fun (z3 : Bool × Int) => if z3.1 then ((g33_l2 k a0 n) (fW .i64 (z3.2 + 1))) else (g33_l4 k a0 k z3.2)) (fun j3 => if (decide (y2_0 < (a0.length : Int))) then ((nthS a0 y2_0).bind fun x0_7 => j3 (!decide (x0_7 = 10), y2_0)) else (j3 (false, y2_0)))) := rfl
theorem g33_l2_ok (k : Nat)  (a0 : (List Nat))  : ∀ (n : Nat) (y2_0 : Int), Ok X33 g33p2 [(0, .str a0), (3, .int .i64 y2_0)] (mkH []) (g33_l2 k a0 n y2_0)
 | 0, _ => ok_none
 | n + 1, y2_0 => by
  have ih := g33_l2_ok k a0 n
  rw [g33_l2_s]
  refine ok_ent (p' := nav [0] g33p2) (by kernel_rfl) ?_
  let E1 : Env := [(8, .bool (decide (y2_0 < (a0.length : Int)))), (7, .bool (decide (y2_0 < (a0.length : Int)))), (6, .int .i64 (a0.length : Int)), (5, .str a0), (4, .int .i64 y2_0), (0, .str a0), (3, .int .i64 y2_0)]
  refine oR 8 (p' := (atN 5 (ctl1 g33p3))) (eE := E1) (H' := (mkH [])) (by kernel_rfl) ?_
  refine oJ (f := fun (z3 : Bool × Int) => if z3.1 then ((g33_l2 k a0 n) (fW .i64 (z3.2 + 1))) else (g33_l4 k a0 k z3.2)) g33p4 (fun (z3 : Bool × Int) => [(0, .str a0), (3, .int .i64 z3.2), (13, .bool z3.1)]) (fun (z3 : Bool × Int) => (mkH [])) (fun z3 => ?_) (fun j3 hj3 => ?_)
  ·refine oS 13 (b := z3.1) (by kernel_rfl) (fun hb => ?_) (fun hb => ?_)
   ·let E2 : Env := [(3, .int .i64 (fW .i64 (z3.2 + 1))), (15, .int .i64 (fW .i64 (z3.2 + 1))), (14, .int .i64 z3.2), (13, .bool true), (0, .str a0), (3, .int .i64 z3.2), (13, .bool z3.1)]
    refine oR 8 (p' := g33p2) (eE := E2) (H' := (mkH [])) (by kernel_rfl) ?_
    refine oK [0, 3] (eE := [(0, .str a0), (3, .int .i64 (fW .i64 (z3.2 + 1)))]) (by kernel_rfl) ?_
    exact ih (fW .i64 (z3.2 + 1))
   ·refine oR 5 (p' := g33p6) (eE := [(13, .bool false), (0, .str a0), (3, .int .i64 z3.2), (13, .bool z3.1)]) (H' := (mkH [])) (by kernel_rfl) ?_
    refine oK [0, 3] (eE := [(0, .str a0), (3, .int .i64 z3.2)]) (by kernel_rfl) ?_
    exact (g33_l4_ok k a0 k) z3.2
  ·refine oS 8 (b := decide (y2_0 < (a0.length : Int))) (by kernel_rfl) (fun hb => ?_) (fun hb => ?_)
   ·refine oR 2 (p' := (atN 7 (ctl1 g33p3))) (eE := ((10, .int .i64 y2_0) :: (9, .str a0) :: (8, .bool true) :: E1)) (H' := (mkH [])) (by kernel_rfl) ?_
    refine oH (fun (x0_7 : Int) => (.int .u8 x0_7, (mkH []))) (atN 8 (ctl1 g33p3)) (fun x0_7 => ((11, .int .u8 x0_7) :: (10, .int .i64 y2_0) :: (9, .str a0) :: (8, .bool true) :: E1)) (idxH (by kernel_rfl)) (fun _ => by kernel_rfl) (fun x0_7 hx0_7 => ?_)
    let E6 : Env := ((13, .bool (!decide (x0_7 = 10))) :: (12, .bool (!decide (x0_7 = 10))) :: (11, .int .u8 x0_7) :: (10, .int .i64 y2_0) :: (9, .str a0) :: (8, .bool true) :: E1)
    refine oR 3 (p' := g33p4) (eE := E6) (H' := (mkH [])) (by kernel_rfl) ?_
    refine oK [0, 3, 13] (eE := [(0, .str a0), (3, .int .i64 y2_0), (13, .bool (!decide (x0_7 = 10)))]) (by kernel_rfl) ?_
    exact hj3 (!decide (x0_7 = 10), y2_0)
   ·let E7 : Env := ((13, .bool false) :: (12, .tuple []) :: (11, .tuple []) :: (10, .tuple []) :: (9, .tuple []) :: (8, .bool false) :: E1)
    refine oR 6 (p' := g33p4) (eE := E7) (H' := (mkH [])) (by kernel_rfl) ?_
    refine oK [0, 3, 13] (eE := [(0, .str a0), (3, .int .i64 y2_0), (13, .bool false)]) (by kernel_rfl) ?_
    exact hj3 (false, y2_0)
def g33 (k : Nat) (a0 : (List Nat)) : Option Int :=
 g33_l2 k a0 k 0
theorem g33_ok (k : Nat) (a0 : (List Nat)) (r : Int) (h : g33 k a0 = some r) : PureOk Try.prog 33 [.str a0] (.int .i64 r) := by
 refine pure_of X33 (fun _ => rfl) Try.func33 (by decide +kernel) (by kernel_rfl) (t := g33 k a0) ?_ h
 unfold g33
 refine oE (eE := [(0, .str a0)]) (by kernel_rfl) ?_
 refine oR 11 (p' := g33p2) (eE := [(3, .int .i64 0), (2, .int .i64 0), (0, .str a0)]) (H' := (mkH [])) (by kernel_rfl) ?_
 refine oK [0, 3] (eE := [(0, .str a0), (3, .int .i64 0)]) (by kernel_rfl) ?_
 exact (g33_l2_ok k a0 k) 0
end
end Go.Proofs.Ytokcjgjgojlhbaa.Am
set_option maxRecDepth 100000
set_option linter.unusedVariables false
namespace Go.Proofs.Ytokcjgjgojlhbaa.Am
noncomputable section
open Go
def X51 : Fx Int := ⟨Try.prog, cx, Try.f51, fun r => .int .i64 r, 0, fun _ => H0, cxTi, cxOrd⟩
def g51p0 : Pt := nav [0] (bodyAt Try.f51)
def g51p1 : Pt := nav [0, 0, 0] g51p0
def g51p2 : Pt := nav [0, 0, 0, 0] g51p1
def g51p3 : Pt := nav [0, 0] g51p2
def g51 (k : Nat) (a0 : (List Nat)) (a1 : Int) : Option Int :=
 (g31 k a0 a1).bind fun x0_2 => jn (fun (z1 : Bool) => if z1 then (some (0 : Int)) else (some x0_2.2)) (fun j1 => if (decide (x0_2.1 < 32)) then (j1 true) else (j1 (decide (x0_2.1 = 127))))
theorem g51_ok (k : Nat) (a0 : (List Nat)) (a1 : Int) (r : Int) (h : g51 k a0 a1 = some r) : PureOk Try.prog 51 [.str a0, .int .i64 a1] (.int .i64 r) := by
 refine pure_of X51 (fun _ => rfl) Try.func51 (by decide +kernel) (by kernel_rfl) (t := g51 k a0 a1) ?_ h
 unfold g51
 refine oE (eE := [(0, .str a0), (1, .int .i64 a1)]) (by kernel_rfl) ?_
 let E1 : Env := [(9, .int .i64 a1), (8, .str a0), (4, .int .i64 0), (0, .str a0), (1, .int .i64 a1)]
 refine oR 8 (p' := (atN 2 (ctl1 g51p1))) (eE := E1) (H' := (mkH [])) (by kernel_rfl) ?_
 refine oC (fun (x0_2 : (Int × Int)) => .tuple [.int .i64 x0_2.1, .int .i64 x0_2.2]) (atN 3 (ctl1 g51p1)) (fun x0_2 => ((10, .tuple [.int .i64 x0_2.1, .int .i64 x0_2.2]) :: E1)) (fi := 31) (args := [.str a0, .int .i64 a1]) (by kernel_rfl) (by kernel_rfl) (fun _ => by kernel_rfl) (fun r h => g31_ok k a0 a1 r h) (fun _ => by kernel_rfl) (fun x0_2 hx0_2 => ?_)
 let E2 : Env := ((6, .int .i64 x0_2.2) :: (5, .int .i64 x0_2.1) :: (12, .int .i64 x0_2.2) :: (11, .int .i64 x0_2.1) :: (7, .tuple [.int .i64 x0_2.1, .int .i64 x0_2.2]) :: (10, .tuple [.int .i64 x0_2.1, .int .i64 x0_2.2]) :: E1)
 refine oR 8 (p' := g51p2) (eE := E2) (H' := (mkH [])) (by kernel_rfl) ?_
 refine oK [5, 6] (eE := [(5, .int .i64 x0_2.1), (6, .int .i64 x0_2.2)]) (by kernel_rfl) ?_
 let E3 : Env := [(15, .bool (decide (x0_2.1 < 32))), (14, .bool (decide (x0_2.1 < 32))), (13, .int .i64 x0_2.1), (5, .int .i64 x0_2.1), (6, .int .i64 x0_2.2)]
 refine oR 4 (p' := (atN 3 (ctl1 g51p2))) (eE := E3) (H' := (mkH [])) (by kernel_rfl) ?_
 refine oJ (f := fun (z1 : Bool) => if z1 then (some (0 : Int)) else (some x0_2.2)) g51p3 (fun (z1 : Bool) => [(6, .int .i64 x0_2.2), (18, .bool z1)]) (fun (z1 : Bool) => (mkH [])) (fun z1 => ?_) (fun j1 hj1 => ?_)
 ·refine oS 18 (b := z1) (by kernel_rfl) (fun hb => ?_) (fun hb => ?_)
  ·refine oR 6 (p' := .fin) (eE := [(4, .int .i64 0), (18, .bool true), (6, .int .i64 x0_2.2), (18, .bool z1)]) (H' := (mkH [])) (by kernel_rfl) ?_
   exact oT (r := (0 : Int)) (xs := [.int .i64 0]) (v := .int .i64 0) (by kernel_rfl) (by kernel_rfl) (by kernel_rfl) (.pures (by kernel_rfl)) (by kernel_rfl)
  ·let E4 : Env := [(4, .int .i64 x0_2.2), (19, .int .i64 x0_2.2), (18, .bool false), (6, .int .i64 x0_2.2), (18, .bool z1)]
   refine oR 8 (p' := .fin) (eE := E4) (H' := (mkH [])) (by kernel_rfl) ?_
   exact oT (r := x0_2.2) (xs := [.int .i64 x0_2.2]) (v := .int .i64 x0_2.2) (by kernel_rfl) (by kernel_rfl) (by kernel_rfl) (.pures (by kernel_rfl)) (by kernel_rfl)
 ·refine oS 15 (b := decide (x0_2.1 < 32)) (by kernel_rfl) (fun hb => ?_) (fun hb => ?_)
  ·refine oR 4 (p' := g51p3) (eE := ((18, .bool true) :: (17, .tuple []) :: (16, .tuple []) :: (15, .bool true) :: E3)) (H' := (mkH [])) (by kernel_rfl) ?_
   refine oK [6, 18] (eE := [(6, .int .i64 x0_2.2), (18, .bool true)]) (by kernel_rfl) ?_
   exact hj1 true
  ·refine oR 4 (p' := g51p3) (eE := ((18, .bool (decide (x0_2.1 = 127))) :: (17, .bool (decide (x0_2.1 = 127))) :: (16, .int .i64 x0_2.1) :: (15, .bool false) :: E3)) (H' := (mkH [])) (by kernel_rfl) ?_
   refine oK [6, 18] (eE := [(6, .int .i64 x0_2.2), (18, .bool (decide (x0_2.1 = 127)))]) (by kernel_rfl) ?_
   exact hj1 (decide (x0_2.1 = 127))
end
end Go.Proofs.Ytokcjgjgojlhbaa.Am
set_option maxRecDepth 100000
set_option linter.unusedVariables false
namespace Go.Proofs.Ytokcjgjgojlhbaa.Am
noncomputable section
open Go
def X34 : Fx Int := ⟨Try.prog, cx, Try.f34, fun r => .int .i64 r, 0, fun _ => H0, cxTi, cxOrd⟩
def g34p0 : Pt := nav [0] (bodyAt Try.f34)
def g34p1 : Pt := nav [0, 0, 0, 0] g34p0
def g34p2 : Pt := nav [0, 0, 0, 0, 0] g34p1
def g34p3 : Pt := nav [0, 0, 0, 0, 0] g34p2
def g34p4 : Pt := nav [0, 0] g34p3
def g34p6 : Pt := nav [2, 0] g34p4
def g34p8 : Pt := nav [0] g34p6
def g34p10 : Pt := nav [2, 0] g34p8
def g34p11 : Pt := nav [0, 0] g34p10
def g34p12 : Pt := nav [1, 0] g34p11
def g34p13 : Pt := nav [2, 0, 0] g34p11
def g34p14 : Pt := nav [0, 0, 0] g34p12
def g34p15 : Pt := nav [0, 0, 0] g34p14
def g34p16 : Pt := nav [0, 0] g34p15
def g34_l4 (k : Nat)  (a0 : (List Nat)) (n : Nat) : Int → Option Int :=
 Nat.rec (motive := fun _ => Int → Option Int) (fun _ => none) (fun _ ih => fun (y4_0 : Int) => (g51 k a0 y4_0).bind fun x0_2 => if (decide (x0_2 = 0)) then (some (0 : Int)) else ((nthS a0 y4_0).bind fun x1_2 => (nthS a0 0).bind fun x1_4 => if (decide (x1_2 = x1_4)) then (some (fW .i64 (y4_0 + 1))) else ((nthS a0 y4_0).bind fun x2_2 => jn (fun (z5 : Int × Int) => ih (fW .i64 (z5.1 + z5.2))) (fun j5 => if (decide (x2_2 = 92)) then ((g51 k a0 (fW .i64 (y4_0 + 1))).bind fun x3_2 => if (decide (x3_2 = 0)) then (some (0 : Int)) else (j5 (fW .i64 (y4_0 + 1), x3_2))) else (j5 (y4_0, x0_2)))))) n
theorem g34_l4_s (k : Nat)  (a0 : (List Nat)) (n : Nat) (y4_0 : Int) : g34_l4 k a0 (n + 1) y4_0 = ((g51 k a0 y4_0).bind fun x0_2 => if (decide (x0_2 = 0)) then (some (0 : Int)) else ((nthS a0 y4_0).bind fun x1_2 => (nthS a0 0).bind fun x1_4 => if (decide (x1_2 = x1_4)) then (some (fW .i64 (y4_0 + 1))) else ((nthS a0 y4_0).bind fun x2_2 => jn (fun (z5 : Int × Int) => (g34_l4 k a0 n) (fW .i64 (z5.1 + z5.2))) (fun j5 => if (decide (x2_2 = 92)) then ((g51 k a0 (fW .i64 (y4_0 + 1))).bind fun x3_2 => if (decide (x3_2 = 0)) then (some (0 : Int)) else (j5 (fW .i64 (y4_0 + 1), x3_2))) else (j5 (y4_0, x0_2)))))) := rfl
theorem g34_l4_ok (k : Nat)  (a0 : (List Nat))  : ∀ (n : Nat) (y4_0 : Int), Ok X34 g34p2 [(0, .str a0), (3, .int .i64 y4_0)] (mkH []) (g34_l4 k a0 n y4_0)
 | 0, _ => ok_none
 | n + 1, y4_0 => by
  have ih := g34_l4_ok k a0 n
  rw [g34_l4_s]
  refine oR 3 (p' := (atN 2 (ctl1 g34p2))) (eE := [(6, .int .i64 y4_0), (5, .str a0), (0, .str a0), (3, .int .i64 y4_0)]) (H' := (mkH [])) (by kernel_rfl) ?_
  refine oC (fun (x0_2 : Int) => .int .i64 x0_2) (atN 3 (ctl1 g34p2)) (fun x0_2 => [(7, .int .i64 x0_2), (6, .int .i64 y4_0), (5, .str a0), (0, .str a0), (3, .int .i64 y4_0)]) (fi := 51) (args := [.str a0, .int .i64 y4_0]) (by kernel_rfl) (by kernel_rfl) (fun _ => by kernel_rfl) (fun r h => g51_ok k a0 y4_0 r h) (fun _ => by kernel_rfl) (fun x0_2 hx0_2 => ?_)
  let E1 : Env := [(8, .bool (decide (x0_2 = 0))), (10, .bool (decide (x0_2 = 0))), (9, .int .i64 x0_2), (4, .int .i64 x0_2), (7, .int .i64 x0_2), (6, .int .i64 y4_0), (5, .str a0), (0, .str a0), (3, .int .i64 y4_0)]
  refine oR 10 (p' := g34p4) (eE := E1) (H' := (mkH [])) (by kernel_rfl) ?_
  refine oS 8 (b := decide (x0_2 = 0)) (by kernel_rfl) (fun hb => ?_) (fun hb => ?_)
  ·refine oR 6 (p' := .fin) (eE := ((2, .int .i64 0) :: (8, .bool true) :: E1)) (H' := (mkH [])) (by kernel_rfl) ?_
   exact oT (r := (0 : Int)) (xs := [.int .i64 0]) (v := .int .i64 0) (by kernel_rfl) (by kernel_rfl) (by kernel_rfl) (.pures (by kernel_rfl)) (by kernel_rfl)
  ·refine oR 2 (p' := g34p6) (eE := ((8, .bool false) :: E1)) (H' := (mkH [])) (by kernel_rfl) ?_
   refine ok_bind (fun x1_2 hx1_2 => ?_)
   refine ok_bind (fun x1_4 hx1_4 => ?_)
   let E2 : Env := [(13, .int .i64 y4_0), (12, .str a0), (8, .bool false), (8, .bool (decide (x0_2 = 0))), (10, .bool (decide (x0_2 = 0))), (9, .int .i64 x0_2), (4, .int .i64 x0_2), (7, .int .i64 x0_2), (6, .int .i64 y4_0), (5, .str a0), (0, .str a0), (3, .int .i64 y4_0)]
   let E3 : Env := ((11, .bool (decide (x1_2 = x1_4))) :: (17, .bool (decide (x1_2 = x1_4))) :: (16, .int .u8 x1_4) :: (15, .str a0) :: (14, .int .u8 x1_2) :: E2)
   refine ok_draw (p' := nav [0] g34p6) (eE := E3) (H' := (mkH [])) (hs := []) [(0, 0, 0), (0, 0, 0), (3, 0, 0), (0, 0, 0), (8, 0, 0), (31, 0, 0), (63, 0, 0)] (by kernel_rfl) (by kernel_rfl) (by kernel_rfl) (opsD_run 2 (l' := (opsAt g34p6).toList.drop 2) (eE := E2) (H' := (mkH [])) (hs := []) (by kernel_rfl) (opsD_chk (l' := (opsAt g34p6).toList.drop 3) (eE := ((14, .int .u8 x1_2) :: E2)) (hs := []) (x := x1_2) (fun (x1_2 : Int) => (.int .u8 x1_2, (mkH []))) (idxH (by kernel_rfl)) hx1_2 (by kernel_rfl) (opsD_run 1 (l' := (opsAt g34p6).toList.drop 4) (eE := ((15, .str a0) :: (14, .int .u8 x1_2) :: E2)) (H' := (mkH [])) (hs := []) (by kernel_rfl) (opsD_chk (l' := (opsAt g34p6).toList.drop 5) (eE := ((16, .int .u8 x1_4) :: (15, .str a0) :: (14, .int .u8 x1_2) :: E2)) (hs := []) (x := x1_4) (fun (x1_4 : Int) => (.int .u8 x1_4, (mkH []))) (idxH (by kernel_rfl)) hx1_4 (by kernel_rfl) (opsD_run 2 (l' := (opsAt g34p6).toList.drop 7) (eE := E3) (H' := (mkH [])) (hs := []) (by kernel_rfl) (.nil)))))) (by kernel_rfl) (by kernel_rfl) (by kernel_rfl) ?_
   refine oS 11 (b := decide (x1_2 = x1_4)) (by kernel_rfl) (fun hb => ?_) (fun hb => ?_)
   ·refine oR 8 (p' := .fin) (eE := ((2, .int .i64 (fW .i64 (y4_0 + 1))) :: (19, .int .i64 (fW .i64 (y4_0 + 1))) :: (18, .int .i64 y4_0) :: (11, .bool true) :: E3)) (H' := (mkH [])) (by kernel_rfl) ?_
    exact oT (r := (fW .i64 (y4_0 + 1))) (xs := [.int .i64 (fW .i64 (y4_0 + 1))]) (v := .int .i64 (fW .i64 (y4_0 + 1))) (by kernel_rfl) (by kernel_rfl) (by kernel_rfl) (.pures (by kernel_rfl)) (by kernel_rfl)
   ·refine oR 5 (p' := (atN 2 (ctl1 g34p10))) (eE := ((22, .int .i64 y4_0) :: (21, .str a0) :: (11, .bool false) :: E3)) (H' := (mkH [])) (by kernel_rfl) ?_
    refine oH (fun (x2_2 : Int) => (.int .u8 x2_2, (mkH []))) (atN 3 (ctl1 g34p10)) (fun x2_2 => ((23, .int .u8 x2_2) :: (22, .int .i64 y4_0) :: (21, .str a0) :: (11, .bool false) :: E3)) (idxH (by kernel_rfl)) (fun _ => by kernel_rfl) (fun x2_2 hx2_2 => ?_)
    let E4 : Env := ((20, .bool (decide (x2_2 = 92))) :: (24, .bool (decide (x2_2 = 92))) :: (23, .int .u8 x2_2) :: (22, .int .i64 y4_0) :: (21, .str a0) :: (11, .bool false) :: E3)
    refine oR 3 (p' := g34p11) (eE := E4) (H' := (mkH [])) (by kernel_rfl) ?_
    refine oK [0, 3, 4, 20] (eE := [(0, .str a0), (3, .int .i64 y4_0), (4, .int .i64 x0_2), (20, .bool (decide (x2_2 = 92)))]) (by kernel_rfl) ?_
    refine oJ (f := fun (z5 : Int × Int) => (g34_l4 k a0 n) (fW .i64 (z5.1 + z5.2))) g34p13 (fun (z5 : Int × Int) => [(0, .str a0), (3, .int .i64 z5.1), (4, .int .i64 z5.2)]) (fun (z5 : Int × Int) => (mkH [])) (fun z5 => ?_) (fun j5 hj5 => ?_)
    ·let E5 : Env := [(3, .int .i64 (fW .i64 (z5.1 + z5.2))), (34, .int .i64 (fW .i64 (z5.1 + z5.2))), (33, .int .i64 z5.2), (32, .int .i64 z5.1), (0, .str a0), (3, .int .i64 z5.1), (4, .int .i64 z5.2)]
     refine oR 10 (p' := g34p2) (eE := E5) (H' := (mkH [])) (by kernel_rfl) ?_
     refine oK [0, 3] (eE := [(0, .str a0), (3, .int .i64 (fW .i64 (z5.1 + z5.2)))]) (by kernel_rfl) ?_
     exact ih (fW .i64 (z5.1 + z5.2))
    ·refine oS 20 (b := decide (x2_2 = 92)) (by kernel_rfl) (fun hb => ?_) (fun hb => ?_)
     ·let E6 : Env := [(28, .int .i64 (fW .i64 (y4_0 + 1))), (27, .str a0), (3, .int .i64 (fW .i64 (y4_0 + 1))), (26, .int .i64 (fW .i64 (y4_0 + 1))), (25, .int .i64 y4_0), (20, .bool true), (0, .str a0), (3, .int .i64 y4_0), (4, .int .i64 x0_2), (20, .bool (decide (x2_2 = 92)))]
      refine oR 11 (p' := (atN 2 (ctl1 g34p14))) (eE := E6) (H' := (mkH [])) (by kernel_rfl) ?_
      refine oC (fun (x3_2 : Int) => .int .i64 x3_2) (atN 3 (ctl1 g34p14)) (fun x3_2 => ((29, .int .i64 x3_2) :: E6)) (fi := 51) (args := [.str a0, .int .i64 (fW .i64 (y4_0 + 1))]) (by kernel_rfl) (by kernel_rfl) (fun _ => by kernel_rfl) (fun r h => g51_ok k a0 (fW .i64 (y4_0 + 1)) r h) (fun _ => by kernel_rfl) (fun x3_2 hx3_2 => ?_)
      refine oR 3 (p' := g34p15) (eE := ((4, .int .i64 x3_2) :: (29, .int .i64 x3_2) :: E6)) (H' := (mkH [])) (by kernel_rfl) ?_
      refine oK [0, 3, 4] (eE := [(0, .str a0), (3, .int .i64 (fW .i64 (y4_0 + 1))), (4, .int .i64 x3_2)]) (by kernel_rfl) ?_
      let E7 : Env := [(31, .bool (decide (x3_2 = 0))), (30, .int .i64 x3_2), (0, .str a0), (3, .int .i64 (fW .i64 (y4_0 + 1))), (4, .int .i64 x3_2)]
      refine oR 4 (p' := g34p16) (eE := E7) (H' := (mkH [])) (by kernel_rfl) ?_
      refine oS 31 (b := decide (x3_2 = 0)) (by kernel_rfl) (fun hb => ?_) (fun hb => ?_)
      ·refine oR 6 (p' := .fin) (eE := ((2, .int .i64 0) :: (31, .bool true) :: E7)) (H' := (mkH [])) (by kernel_rfl) ?_
       exact oT (r := (0 : Int)) (xs := [.int .i64 0]) (v := .int .i64 0) (by kernel_rfl) (by kernel_rfl) (by kernel_rfl) (.pures (by kernel_rfl)) (by kernel_rfl)
      ·refine oR 3 (p' := g34p13) (eE := ((31, .bool false) :: E7)) (H' := (mkH [])) (by kernel_rfl) ?_
       refine oK [0, 3, 4] (eE := [(0, .str a0), (3, .int .i64 (fW .i64 (y4_0 + 1))), (4, .int .i64 x3_2)]) (by kernel_rfl) ?_
       exact hj5 (fW .i64 (y4_0 + 1), x3_2)
     ·let E8 : Env := [(20, .bool false), (0, .str a0), (3, .int .i64 y4_0), (4, .int .i64 x0_2), (20, .bool (decide (x2_2 = 92)))]
      refine oR 3 (p' := g34p13) (eE := E8) (H' := (mkH [])) (by kernel_rfl) ?_
      refine oK [0, 3, 4] (eE := [(0, .str a0), (3, .int .i64 y4_0), (4, .int .i64 x0_2)]) (by kernel_rfl) ?_
      exact hj5 (y4_0, x0_2)
def g34 (k : Nat) (a0 : (List Nat)) : Option Int :=
 g34_l4 k a0 k 1
theorem g34_ok (k : Nat) (a0 : (List Nat)) (r : Int) (h : g34 k a0 = some r) : PureOk Try.prog 34 [.str a0] (.int .i64 r) := by
 refine pure_of X34 (fun _ => rfl) Try.func34 (by decide +kernel) (by kernel_rfl) (t := g34 k a0) ?_ h
 unfold g34
 refine oE (eE := [(0, .str a0)]) (by kernel_rfl) ?_
 refine oR 12 (p' := g34p2) (eE := [(3, .int .i64 1), (2, .int .i64 0), (0, .str a0)]) (H' := (mkH [])) (by kernel_rfl) ?_
 refine oK [0, 3] (eE := [(0, .str a0), (3, .int .i64 1)]) (by kernel_rfl) ?_
 exact (g34_l4_ok k a0 k) 1
end
end Go.Proofs.Ytokcjgjgojlhbaa.Am
set_option maxRecDepth 100000
set_option linter.unusedVariables false
namespace Go.Proofs.Ytokcjgjgojlhbaa.Am
noncomputable section
open Go
def X35 : Fx Int := ⟨Try.prog, cx, Try.f35, fun r => .int .i64 r, 0, fun _ => H0, cxTi, cxOrd⟩
def g35p0 : Pt := nav [0] (bodyAt Try.f35)
def g35p1 : Pt := nav [0, 0, 0, 0] g35p0
def g35p2 : Pt := nav [0, 0] g35p1
def g35p3 : Pt := nav [1, 0, 0] g35p2
def g35p4 : Pt := nav [2, 0, 0, 0] g35p2
def g35p5 : Pt := nav [0, 0, 0] g35p3
def g35p6 : Pt := nav [0, 0, 0] g35p4
def g35p7 : Pt := nav [0, 0] g35p5
def g35p8 : Pt := nav [0, 0] g35p6
def g35 (k : Nat) (a0 : (List Nat)) : Option Int :=
 jn (fun (z4 : Bool) => if z4 then ((g52 k a0 (1 : Int)).bind fun x1_1 => if (decide (0 < x1_1.2)) then (some (fW .i64 (x1_1.2 + 1))) else (some (0 : Int))) else ((g51 k a0 (1 : Int)).bind fun x2_1 => jn (fun (z5 : Bool) => if z5 then (some (fW .i64 (x2_1 + 1))) else (some (0 : Int))) (fun j5 => if (decide (0 < x2_1)) then ((nthS a0 1).bind fun x3_4 => j5 (!decide (x3_4 = 32))) else (j5 false)))) (fun j4 => if (decide (1 < (a0.length : Int))) then ((nthS a0 1).bind fun x0_5 => j4 (decide (x0_5 = 92))) else (j4 false))
theorem g35_ok (k : Nat) (a0 : (List Nat)) (r : Int) (h : g35 k a0 = some r) : PureOk Try.prog 35 [.str a0] (.int .i64 r) := by
 refine pure_of X35 (fun _ => rfl) Try.func35 (by decide +kernel) (by kernel_rfl) (t := g35 k a0) ?_ h
 unfold g35
 refine oE (eE := [(0, .str a0)]) (by kernel_rfl) ?_
 let E1 : Env := [(9, .bool (decide (1 < (a0.length : Int)))), (8, .bool (decide (1 < (a0.length : Int)))), (7, .int .i64 (a0.length : Int)), (6, .str a0), (2, .int .i64 0), (0, .str a0)]
 refine oR 11 (p' := (atN 4 (ctl1 g35p1))) (eE := E1) (H' := (mkH [])) (by kernel_rfl) ?_
 refine oJ (f := fun (z4 : Bool) => if z4 then ((g52 k a0 (1 : Int)).bind fun x1_1 => if (decide (0 < x1_1.2)) then (some (fW .i64 (x1_1.2 + 1))) else (some (0 : Int))) else ((g51 k a0 (1 : Int)).bind fun x2_1 => jn (fun (z5 : Bool) => if z5 then (some (fW .i64 (x2_1 + 1))) else (some (0 : Int))) (fun j5 => if (decide (0 < x2_1)) then ((nthS a0 1).bind fun x3_4 => j5 (!decide (x3_4 = 32))) else (j5 false)))) g35p2 (fun (z4 : Bool) => [(0, .str a0), (13, .bool z4)]) (fun (z4 : Bool) => (mkH [])) (fun z4 => ?_) (fun j4 hj4 => ?_)
 ·refine oS 13 (b := z4) (by kernel_rfl) (fun hb => ?_) (fun hb => ?_)
  ·refine oR 5 (p' := (atN 1 (ctl1 g35p3))) (eE := [(15, .str a0), (13, .bool true), (0, .str a0), (13, .bool z4)]) (H' := (mkH [])) (by kernel_rfl) ?_
   refine oC (fun (x1_1 : (Int × Int)) => .tuple [.int .i64 x1_1.1, .int .i64 x1_1.2]) (atN 2 (ctl1 g35p3)) (fun x1_1 => [(16, .tuple [.int .i64 x1_1.1, .int .i64 x1_1.2]), (15, .str a0), (13, .bool true), (0, .str a0), (13, .bool z4)]) (fi := 52) (args := [.str a0, .int .i64 1]) (by kernel_rfl) (by kernel_rfl) (fun _ => by kernel_rfl) (fun r h => g52_ok k a0 (1 : Int) r h) (fun _ => by kernel_rfl) (fun x1_1 hx1_1 => ?_)
   let E2 : Env := [(4, .int .i64 x1_1.2), (3, .int .i64 x1_1.1), (18, .int .i64 x1_1.2), (17, .int .i64 x1_1.1), (14, .tuple [.int .i64 x1_1.1, .int .i64 x1_1.2]), (16, .tuple [.int .i64 x1_1.1, .int .i64 x1_1.2]), (15, .str a0), (13, .bool true), (0, .str a0), (13, .bool z4)]
   refine oR 7 (p' := g35p5) (eE := E2) (H' := (mkH [])) (by kernel_rfl) ?_
   refine oK [4] (eE := [(4, .int .i64 x1_1.2)]) (by kernel_rfl) ?_
   refine oR 4 (p' := g35p7) (eE := [(20, .bool (decide (0 < x1_1.2))), (19, .int .i64 x1_1.2), (4, .int .i64 x1_1.2)]) (H' := (mkH [])) (by kernel_rfl) ?_
   refine oS 20 (b := decide (0 < x1_1.2)) (by kernel_rfl) (fun hb => ?_) (fun hb => ?_)
   ·let E3 : Env := [(2, .int .i64 (fW .i64 (x1_1.2 + 1))), (22, .int .i64 (fW .i64 (x1_1.2 + 1))), (21, .int .i64 x1_1.2), (20, .bool true), (20, .bool (decide (0 < x1_1.2))), (19, .int .i64 x1_1.2), (4, .int .i64 x1_1.2)]
    refine oR 8 (p' := .fin) (eE := E3) (H' := (mkH [])) (by kernel_rfl) ?_
    exact oT (r := (fW .i64 (x1_1.2 + 1))) (xs := [.int .i64 (fW .i64 (x1_1.2 + 1))]) (v := .int .i64 (fW .i64 (x1_1.2 + 1))) (by kernel_rfl) (by kernel_rfl) (by kernel_rfl) (.pures (by kernel_rfl)) (by kernel_rfl)
   ·let E4 : Env := [(2, .int .i64 0), (20, .bool false), (20, .bool (decide (0 < x1_1.2))), (19, .int .i64 x1_1.2), (4, .int .i64 x1_1.2)]
    refine oR 7 (p' := .fin) (eE := E4) (H' := (mkH [])) (by kernel_rfl) ?_
    exact oT (r := (0 : Int)) (xs := [.int .i64 0]) (v := .int .i64 0) (by kernel_rfl) (by kernel_rfl) (by kernel_rfl) (.pures (by kernel_rfl)) (by kernel_rfl)
  ·refine oR 6 (p' := (atN 1 (ctl1 g35p4))) (eE := [(23, .str a0), (13, .bool false), (0, .str a0), (13, .bool z4)]) (H' := (mkH [])) (by kernel_rfl) ?_
   refine oC (fun (x2_1 : Int) => .int .i64 x2_1) (atN 2 (ctl1 g35p4)) (fun x2_1 => [(24, .int .i64 x2_1), (23, .str a0), (13, .bool false), (0, .str a0), (13, .bool z4)]) (fi := 51) (args := [.str a0, .int .i64 1]) (by kernel_rfl) (by kernel_rfl) (fun _ => by kernel_rfl) (fun r h => g51_ok k a0 (1 : Int) r h) (fun _ => by kernel_rfl) (fun x2_1 hx2_1 => ?_)
   let E5 : Env := [(27, .bool (decide (0 < x2_1))), (26, .bool (decide (0 < x2_1))), (25, .int .i64 x2_1), (5, .int .i64 x2_1), (24, .int .i64 x2_1), (23, .str a0), (13, .bool false), (0, .str a0), (13, .bool z4)]
   refine oR 7 (p' := (atN 3 (ctl1 g35p6))) (eE := E5) (H' := (mkH [])) (by kernel_rfl) ?_
   refine oJ (f := fun (z5 : Bool) => if z5 then (some (fW .i64 (x2_1 + 1))) else (some (0 : Int))) g35p8 (fun (z5 : Bool) => [(5, .int .i64 x2_1), (31, .bool z5)]) (fun (z5 : Bool) => (mkH [])) (fun z5 => ?_) (fun j5 hj5 => ?_)
   ·refine oS 31 (b := z5) (by kernel_rfl) (fun hb => ?_) (fun hb => ?_)
    ·let E6 : Env := [(2, .int .i64 (fW .i64 (x2_1 + 1))), (33, .int .i64 (fW .i64 (x2_1 + 1))), (32, .int .i64 x2_1), (31, .bool true), (5, .int .i64 x2_1), (31, .bool z5)]
     refine oR 8 (p' := .fin) (eE := E6) (H' := (mkH [])) (by kernel_rfl) ?_
     exact oT (r := (fW .i64 (x2_1 + 1))) (xs := [.int .i64 (fW .i64 (x2_1 + 1))]) (v := .int .i64 (fW .i64 (x2_1 + 1))) (by kernel_rfl) (by kernel_rfl) (by kernel_rfl) (.pures (by kernel_rfl)) (by kernel_rfl)
    ·refine oR 7 (p' := .fin) (eE := [(2, .int .i64 0), (31, .bool false), (5, .int .i64 x2_1), (31, .bool z5)]) (H' := (mkH [])) (by kernel_rfl) ?_
     exact oT (r := (0 : Int)) (xs := [.int .i64 0]) (v := .int .i64 0) (by kernel_rfl) (by kernel_rfl) (by kernel_rfl) (.pures (by kernel_rfl)) (by kernel_rfl)
   ·refine oS 27 (b := decide (0 < x2_1)) (by kernel_rfl) (fun hb => ?_) (fun hb => ?_)
    ·refine oR 1 (p' := (atN 4 (ctl1 g35p6))) (eE := ((28, .str a0) :: (27, .bool true) :: E5)) (H' := (mkH [])) (by kernel_rfl) ?_
     refine oH (fun (x3_4 : Int) => (.int .u8 x3_4, (mkH []))) (atN 5 (ctl1 g35p6)) (fun x3_4 => ((29, .int .u8 x3_4) :: (28, .str a0) :: (27, .bool true) :: E5)) (idxH (by kernel_rfl)) (fun _ => by kernel_rfl) (fun x3_4 hx3_4 => ?_)
     let E7 : Env := ((31, .bool (!decide (x3_4 = 32))) :: (30, .bool (!decide (x3_4 = 32))) :: (29, .int .u8 x3_4) :: (28, .str a0) :: (27, .bool true) :: E5)
     refine oR 3 (p' := g35p8) (eE := E7) (H' := (mkH [])) (by kernel_rfl) ?_
     refine oK [5, 31] (eE := [(5, .int .i64 x2_1), (31, .bool (!decide (x3_4 = 32)))]) (by kernel_rfl) ?_
     exact hj5 (!decide (x3_4 = 32))
    ·let E8 : Env := ((31, .bool false) :: (30, .tuple []) :: (29, .tuple []) :: (28, .tuple []) :: (27, .bool false) :: E5)
     refine oR 5 (p' := g35p8) (eE := E8) (H' := (mkH [])) (by kernel_rfl) ?_
     refine oK [5, 31] (eE := [(5, .int .i64 x2_1), (31, .bool false)]) (by kernel_rfl) ?_
     exact hj5 false
 ·refine oS 9 (b := decide (1 < (a0.length : Int))) (by kernel_rfl) (fun hb => ?_) (fun hb => ?_)
  ·refine oR 1 (p' := (atN 5 (ctl1 g35p1))) (eE := ((10, .str a0) :: (9, .bool true) :: E1)) (H' := (mkH [])) (by kernel_rfl) ?_
   refine oH (fun (x0_5 : Int) => (.int .u8 x0_5, (mkH []))) (atN 6 (ctl1 g35p1)) (fun x0_5 => ((11, .int .u8 x0_5) :: (10, .str a0) :: (9, .bool true) :: E1)) (idxH (by kernel_rfl)) (fun _ => by kernel_rfl) (fun x0_5 hx0_5 => ?_)
   let E9 : Env := ((13, .bool (decide (x0_5 = 92))) :: (12, .bool (decide (x0_5 = 92))) :: (11, .int .u8 x0_5) :: (10, .str a0) :: (9, .bool true) :: E1)
   refine oR 3 (p' := g35p2) (eE := E9) (H' := (mkH [])) (by kernel_rfl) ?_
   refine oK [0, 13] (eE := [(0, .str a0), (13, .bool (decide (x0_5 = 92)))]) (by kernel_rfl) ?_
   exact hj4 (decide (x0_5 = 92))
  ·let E10 : Env := ((13, .bool false) :: (12, .tuple []) :: (11, .tuple []) :: (10, .tuple []) :: (9, .bool false) :: E1)
   refine oR 5 (p' := g35p2) (eE := E10) (H' := (mkH [])) (by kernel_rfl) ?_
   refine oK [0, 13] (eE := [(0, .str a0), (13, .bool false)]) (by kernel_rfl) ?_
   exact hj4 false
end
end Go.Proofs.Ytokcjgjgojlhbaa.Am
set_option maxRecDepth 100000
set_option linter.unusedVariables false
namespace Go.Proofs.Ytokcjgjgojlhbaa.Am
noncomputable section
open Go
def X39 : Fx Int := ⟨Try.prog, cx, Try.f39, fun r => .int .i64 r, 0, fun _ => H0, cxTi, cxOrd⟩
def g39p0 : Pt := nav [0] (bodyAt Try.f39)
def g39p1 : Pt := nav [0, 0, 0] g39p0
def g39p2 : Pt := nav [0, 0, 0, 0, 0] g39p1
def g39p3 : Pt := nav [0, 0, 0] g39p2
def g39p4 : Pt := nav [0, 0] g39p3
def g39_l1 (k : Nat)  (a0 : (List Nat)) (n : Nat) : Int → Option Int :=
 Nat.rec (motive := fun _ => Int → Option Int) (fun _ => none) (fun _ ih => fun (y1_0 : Int) => jn (fun (z2 : Bool × Int) => if z2.1 then (ih (fW .i64 (z2.2 + 1))) else (some z2.2)) (fun j2 => if (decide (y1_0 < (a0.length : Int))) then ((nthS a0 y1_0).bind fun x0_7 => (g58 k x0_7).bind fun x0_8 => j2 (x0_8, y1_0)) else (j2 (false, y1_0)))) n
theorem g39_l1_s (k : Nat)  (a0 : (List Nat)) (n : Nat) (y1_0 : Int) : g39_l1 k a0 (n + 1) y1_0 = (jn (fun (z2 : Bool × Int) => if z2.1 then ((g39_l1 k a0 n) (fW .i64 (z2.2 + 1))) else (some z2.2)) (fun j2 => if (decide (y1_0 < (a0.length : Int))) then ((nthS a0 y1_0).bind fun x0_7 => (g58 k x0_7).bind fun x0_8 => j2 (x0_8, y1_0)) else (j2 (false, y1_0)))) := rfl
theorem g39_l1_ok (k : Nat)  (a0 : (List Nat))  : ∀ (n : Nat) (y1_0 : Int), Ok X39 g39p2 [(0, .str a0), (3, .int .i64 y1_0)] (mkH []) (g39_l1 k a0 n y1_0)
 | 0, _ => ok_none
 | n + 1, y1_0 => by
  have ih := g39_l1_ok k a0 n
  rw [g39_l1_s]
  refine ok_ent (p' := nav [0] g39p2) (by kernel_rfl) ?_
  let E1 : Env := [(8, .bool (decide (y1_0 < (a0.length : Int)))), (7, .bool (decide (y1_0 < (a0.length : Int)))), (6, .int .i64 (a0.length : Int)), (5, .str a0), (4, .int .i64 y1_0), (0, .str a0), (3, .int .i64 y1_0)]
  refine oR 8 (p' := (atN 5 (ctl1 g39p3))) (eE := E1) (H' := (mkH [])) (by kernel_rfl) ?_
  refine oJ (f := fun (z2 : Bool × Int) => if z2.1 then ((g39_l1 k a0 n) (fW .i64 (z2.2 + 1))) else (some z2.2)) g39p4 (fun (z2 : Bool × Int) => [(0, .str a0), (3, .int .i64 z2.2), (13, .bool z2.1)]) (fun (z2 : Bool × Int) => (mkH [])) (fun z2 => ?_) (fun j2 hj2 => ?_)
  ·refine oS 13 (b := z2.1) (by kernel_rfl) (fun hb => ?_) (fun hb => ?_)
   ·let E2 : Env := [(3, .int .i64 (fW .i64 (z2.2 + 1))), (15, .int .i64 (fW .i64 (z2.2 + 1))), (14, .int .i64 z2.2), (13, .bool true), (0, .str a0), (3, .int .i64 z2.2), (13, .bool z2.1)]
    refine oR 8 (p' := g39p2) (eE := E2) (H' := (mkH [])) (by kernel_rfl) ?_
    refine oK [0, 3] (eE := [(0, .str a0), (3, .int .i64 (fW .i64 (z2.2 + 1)))]) (by kernel_rfl) ?_
    exact ih (fW .i64 (z2.2 + 1))
   ·let E3 : Env := [(2, .int .i64 z2.2), (16, .int .i64 z2.2), (13, .bool false), (0, .str a0), (3, .int .i64 z2.2), (13, .bool z2.1)]
    refine oR 8 (p' := .fin) (eE := E3) (H' := (mkH [])) (by kernel_rfl) ?_
    exact oT (r := z2.2) (xs := [.int .i64 z2.2]) (v := .int .i64 z2.2) (by kernel_rfl) (by kernel_rfl) (by kernel_rfl) (.pures (by kernel_rfl)) (by kernel_rfl)
  ·refine oS 8 (b := decide (y1_0 < (a0.length : Int))) (by kernel_rfl) (fun hb => ?_) (fun hb => ?_)
   ·refine oR 2 (p' := (atN 7 (ctl1 g39p3))) (eE := ((10, .int .i64 y1_0) :: (9, .str a0) :: (8, .bool true) :: E1)) (H' := (mkH [])) (by kernel_rfl) ?_
    refine oH (fun (x0_7 : Int) => (.int .u8 x0_7, (mkH []))) (atN 8 (ctl1 g39p3)) (fun x0_7 => ((11, .int .u8 x0_7) :: (10, .int .i64 y1_0) :: (9, .str a0) :: (8, .bool true) :: E1)) (idxH (by kernel_rfl)) (fun _ => by kernel_rfl) (fun x0_7 hx0_7 => ?_)
    refine oC (fun (x0_8 : Bool) => .bool x0_8) (atN 9 (ctl1 g39p3)) (fun x0_8 => ((12, .bool x0_8) :: (11, .int .u8 x0_7) :: (10, .int .i64 y1_0) :: (9, .str a0) :: (8, .bool true) :: E1)) (fi := 58) (args := [.int .u8 x0_7]) (by kernel_rfl) (by kernel_rfl) (fun _ => by kernel_rfl) (fun r h => g58_ok k x0_7 r h) (fun _ => by kernel_rfl) (fun x0_8 hx0_8 => ?_)
    let E4 : Env := ((13, .bool x0_8) :: (12, .bool x0_8) :: (11, .int .u8 x0_7) :: (10, .int .i64 y1_0) :: (9, .str a0) :: (8, .bool true) :: E1)
    refine oR 2 (p' := g39p4) (eE := E4) (H' := (mkH [])) (by kernel_rfl) ?_
    refine oK [0, 3, 13] (eE := [(0, .str a0), (3, .int .i64 y1_0), (13, .bool x0_8)]) (by kernel_rfl) ?_
    exact hj2 (x0_8, y1_0)
   ·let E5 : Env := ((13, .bool false) :: (12, .tuple []) :: (11, .tuple []) :: (10, .tuple []) :: (9, .tuple []) :: (8, .bool false) :: E1)
    refine oR 6 (p' := g39p4) (eE := E5) (H' := (mkH [])) (by kernel_rfl) ?_
    refine oK [0, 3, 13] (eE := [(0, .str a0), (3, .int .i64 y1_0), (13, .bool false)]) (by kernel_rfl) ?_
    exact hj2 (false, y1_0)
def g39 (k : Nat) (a0 : (List Nat)) : Option Int :=
 g39_l1 k a0 k 0
theorem g39_ok (k : Nat) (a0 : (List Nat)) (r : Int) (h : g39 k a0 = some r) : PureOk Try.prog 39 [.str a0] (.int .i64 r) := by
 refine pure_of X39 (fun _ => rfl) Try.func39 (by decide +kernel) (by kernel_rfl) (t := g39 k a0) ?_ h
 unfold g39
 refine oE (eE := [(0, .str a0)]) (by kernel_rfl) ?_
 refine oR 11 (p' := g39p2) (eE := [(3, .int .i64 0), (2, .int .i64 0), (0, .str a0)]) (H' := (mkH [])) (by kernel_rfl) ?_
 refine oK [0, 3] (eE := [(0, .str a0), (3, .int .i64 0)]) (by kernel_rfl) ?_
 exact (g39_l1_ok k a0 k) 0
end
end Go.Proofs.Ytokcjgjgojlhbaa.Am
set_option maxRecDepth 100000
set_option linter.unusedVariables false
namespace Go.Proofs.Ytokcjgjgojlhbaa.Am
noncomputable section
open Go
def X53 : Fx Int := ⟨Try.prog, cx, Try.f53, fun r => .int .u8 r, 0, fun _ => H0, cxTi, cxOrd⟩
def g53p0 : Pt := nav [0] (bodyAt Try.f53)
def g53p1 : Pt := nav [0, 0, 0, 0] g53p0
def g53p2 : Pt := nav [0, 0] g53p1
def g53p4 : Pt := nav [2, 0, 0] g53p2
def g53 (k : Nat) (a0 : (List Nat)) (a1 : Int) : Option Int :=
 if (decide ((a0.length : Int) ≤ a1)) then (some (0 : Int)) else ((nthS a0 a1).bind fun x0_2 => some x0_2)
theorem g53_ok (k : Nat) (a0 : (List Nat)) (a1 : Int) (r : Int) (h : g53 k a0 a1 = some r) : PureOk Try.prog 53 [.str a0, .int .i64 a1] (.int .u8 r) := by
 refine pure_of X53 (fun _ => rfl) Try.func53 (by decide +kernel) (by kernel_rfl) (t := g53 k a0 a1) ?_ h
 unfold g53
 refine oE (eE := [(0, .str a0), (1, .int .i64 a1)]) (by kernel_rfl) ?_
 let E1 : Env := [(8, .bool (decide ((a0.length : Int) ≤ a1))), (7, .int .i64 (a0.length : Int)), (6, .str a0), (5, .int .i64 a1), (4, .int .u8 0), (0, .str a0), (1, .int .i64 a1)]
 refine oR 12 (p' := g53p2) (eE := E1) (H' := (mkH [])) (by kernel_rfl) ?_
 refine oS 8 (b := decide ((a0.length : Int) ≤ a1)) (by kernel_rfl) (fun hb => ?_) (fun hb => ?_)
 ·refine oR 6 (p' := .fin) (eE := ((4, .int .u8 0) :: (8, .bool true) :: E1)) (H' := (mkH [])) (by kernel_rfl) ?_
  exact oT (r := (0 : Int)) (xs := [.int .u8 0]) (v := .int .u8 0) (by kernel_rfl) (by kernel_rfl) (by kernel_rfl) (.pures (by kernel_rfl)) (by kernel_rfl)
 ·refine oR 6 (p' := (atN 2 (ctl1 g53p4))) (eE := ((10, .int .i64 a1) :: (9, .str a0) :: (8, .bool false) :: E1)) (H' := (mkH [])) (by kernel_rfl) ?_
  refine oH (fun (x0_2 : Int) => (.int .u8 x0_2, (mkH []))) (atN 3 (ctl1 g53p4)) (fun x0_2 => ((11, .int .u8 x0_2) :: (10, .int .i64 a1) :: (9, .str a0) :: (8, .bool false) :: E1)) (idxH (by kernel_rfl)) (fun _ => by kernel_rfl) (fun x0_2 hx0_2 => ?_)
  let E2 : Env := ((4, .int .u8 x0_2) :: (11, .int .u8 x0_2) :: (10, .int .i64 a1) :: (9, .str a0) :: (8, .bool false) :: E1)
  refine oR 3 (p' := .fin) (eE := E2) (H' := (mkH [])) (by kernel_rfl) ?_
  exact oT (r := x0_2) (xs := [.int .u8 x0_2]) (v := .int .u8 x0_2) (by kernel_rfl) (by kernel_rfl) (by kernel_rfl) (.pures (by kernel_rfl)) (by kernel_rfl)
end
end Go.Proofs.Ytokcjgjgojlhbaa.Am
set_option maxRecDepth 100000
set_option linter.unusedVariables false
namespace Go.Proofs.Ytokcjgjgojlhbaa.Am
noncomputable section
open Go
def X36 : Fx Int := ⟨Try.prog, cx, Try.f36, fun r => .int .i64 r, 0, fun _ => H0, cxTi, cxOrd⟩
def g36p0 : Pt := nav [0] (bodyAt Try.f36)
def g36p1 : Pt := nav [0, 0, 0] g36p0
def g36p2 : Pt := nav [0, 0, 0, 0] g36p1
def g36p3 : Pt := nav [0, 0] g36p2
def g36p5 : Pt := nav [2, 0, 0, 0] g36p3
def g36p6 : Pt := nav [0, 0, 0] g36p5
def g36p7 : Pt := nav [0, 0] g36p6
def g36p9 : Pt := nav [2, 0, 0] g36p7
def g36 (k : Nat) (a0 : (List Nat)) : Option Int :=
 jn (fun (z3 : Bool) => jn (fun (z4 : Int) => (g53 k a0 z4).bind fun x1_2 => (g37 k x1_2).bind fun x1_3 => jn (fun (z5 : Bool) => if z5 then (some (0 : Int)) else ((subL a0 (some z4) none).bind fun x2_3 => (g39 k x2_3).bind fun x2_4 => some (fW .i64 (z4 + x2_4)))) (fun j5 => if (!decide (x1_3 = 1)) then (j5 (!decide (x1_3 = 2))) else (j5 false))) (fun j4 => if z3 then (j4 2) else (j4 1))) (fun j3 => if (decide (1 < (a0.length : Int))) then ((nthS a0 1).bind fun x0_5 => j3 (decide (x0_5 = 63))) else (j3 false))
theorem g36_ok (k : Nat) (a0 : (List Nat)) (r : Int) (h : g36 k a0 = some r) : PureOk Try.prog 36 [.str a0] (.int .i64 r) := by
 refine pure_of X36 (fun _ => rfl) Try.func36 (by decide +kernel) (by kernel_rfl) (t := g36 k a0) ?_ h
 unfold g36
 refine oE (eE := [(0, .str a0)]) (by kernel_rfl) ?_
 let E1 : Env := [(8, .bool (decide (1 < (a0.length : Int)))), (7, .bool (decide (1 < (a0.length : Int)))), (6, .int .i64 (a0.length : Int)), (5, .str a0), (3, .int .i64 1), (2, .int .i64 0), (0, .str a0)]
 refine oR 15 (p' := (atN 4 (ctl1 g36p2))) (eE := E1) (H' := (mkH [])) (by kernel_rfl) ?_
 refine oJ (f := fun (z3 : Bool) => jn (fun (z4 : Int) => (g53 k a0 z4).bind fun x1_2 => (g37 k x1_2).bind fun x1_3 => jn (fun (z5 : Bool) => if z5 then (some (0 : Int)) else ((subL a0 (some z4) none).bind fun x2_3 => (g39 k x2_3).bind fun x2_4 => some (fW .i64 (z4 + x2_4)))) (fun j5 => if (!decide (x1_3 = 1)) then (j5 (!decide (x1_3 = 2))) else (j5 false))) (fun j4 => if z3 then (j4 2) else (j4 1))) g36p3 (fun (z3 : Bool) => [(0, .str a0), (3, .int .i64 1), (12, .bool z3)]) (fun (z3 : Bool) => (mkH [])) (fun z3 => ?_) (fun j3 hj3 => ?_)
 ·refine oJ (f := fun (z4 : Int) => (g53 k a0 z4).bind fun x1_2 => (g37 k x1_2).bind fun x1_3 => jn (fun (z5 : Bool) => if z5 then (some (0 : Int)) else ((subL a0 (some z4) none).bind fun x2_3 => (g39 k x2_3).bind fun x2_4 => some (fW .i64 (z4 + x2_4)))) (fun j5 => if (!decide (x1_3 = 1)) then (j5 (!decide (x1_3 = 2))) else (j5 false))) g36p5 (fun (z4 : Int) => [(0, .str a0), (3, .int .i64 z4)]) (fun (z4 : Int) => (mkH [])) (fun z4 => ?_) (fun j4 hj4 => ?_)
  ·refine oR 3 (p' := (atN 2 (ctl1 g36p5))) (eE := [(14, .int .i64 z4), (13, .str a0), (0, .str a0), (3, .int .i64 z4)]) (H' := (mkH [])) (by kernel_rfl) ?_
   refine oC (fun (x1_2 : Int) => .int .u8 x1_2) (atN 3 (ctl1 g36p5)) (fun x1_2 => [(15, .int .u8 x1_2), (14, .int .i64 z4), (13, .str a0), (0, .str a0), (3, .int .i64 z4)]) (fi := 53) (args := [.str a0, .int .i64 z4]) (by kernel_rfl) (by kernel_rfl) (fun _ => by kernel_rfl) (fun r h => g53_ok k a0 z4 r h) (fun _ => by kernel_rfl) (fun x1_2 hx1_2 => ?_)
   refine oC (fun (x1_3 : Int) => .int .i64 x1_3) (atN 4 (ctl1 g36p5)) (fun x1_3 => [(16, .int .i64 x1_3), (15, .int .u8 x1_2), (14, .int .i64 z4), (13, .str a0), (0, .str a0), (3, .int .i64 z4)]) (fi := 37) (args := [.int .u8 x1_2]) (by kernel_rfl) (by kernel_rfl) (fun _ => by kernel_rfl) (fun r h => g37_ok k x1_2 r h) (fun _ => by kernel_rfl) (fun x1_3 hx1_3 => ?_)
   let E2 : Env := [(19, .bool (!decide (x1_3 = 1))), (18, .bool (!decide (x1_3 = 1))), (17, .int .i64 x1_3), (4, .int .i64 x1_3), (16, .int .i64 x1_3), (15, .int .u8 x1_2), (14, .int .i64 z4), (13, .str a0), (0, .str a0), (3, .int .i64 z4)]
   refine oR 7 (p' := (atN 3 (ctl1 g36p6))) (eE := E2) (H' := (mkH [])) (by kernel_rfl) ?_
   refine oJ (f := fun (z5 : Bool) => if z5 then (some (0 : Int)) else ((subL a0 (some z4) none).bind fun x2_3 => (g39 k x2_3).bind fun x2_4 => some (fW .i64 (z4 + x2_4)))) g36p7 (fun (z5 : Bool) => [(0, .str a0), (3, .int .i64 z4), (22, .bool z5)]) (fun (z5 : Bool) => (mkH [])) (fun z5 => ?_) (fun j5 hj5 => ?_)
   ·refine oS 22 (b := z5) (by kernel_rfl) (fun hb => ?_) (fun hb => ?_)
    ·let E3 : Env := [(2, .int .i64 0), (22, .bool true), (0, .str a0), (3, .int .i64 z4), (22, .bool z5)]
     refine oR 6 (p' := .fin) (eE := E3) (H' := (mkH [])) (by kernel_rfl) ?_
     exact oT (r := (0 : Int)) (xs := [.int .i64 0]) (v := .int .i64 0) (by kernel_rfl) (by kernel_rfl) (by kernel_rfl) (.pures (by kernel_rfl)) (by kernel_rfl)
    ·let E4 : Env := [(25, .int .i64 z4), (24, .str a0), (23, .int .i64 z4), (22, .bool false), (0, .str a0), (3, .int .i64 z4), (22, .bool z5)]
     refine oR 7 (p' := (atN 3 (ctl1 g36p9))) (eE := E4) (H' := (mkH [])) (by kernel_rfl) ?_
     refine oH (fun (x2_3 : (List Nat)) => (.str x2_3, (mkH []))) (atN 4 (ctl1 g36p9)) (fun x2_3 => ((26, .str x2_3) :: E4)) (subH (some z4) none (by kernel_rfl)) (fun _ => by kernel_rfl) (fun x2_3 hx2_3 => ?_)
     refine oC (fun (x2_4 : Int) => .int .i64 x2_4) (atN 5 (ctl1 g36p9)) (fun x2_4 => ((27, .int .i64 x2_4) :: (26, .str x2_3) :: E4)) (fi := 39) (args := [.str x2_3]) (by kernel_rfl) (by kernel_rfl) (fun _ => by kernel_rfl) (fun r h => g39_ok k x2_3 r h) (fun _ => by kernel_rfl) (fun x2_4 hx2_4 => ?_)
     refine oR 4 (p' := .fin) (eE := ((2, .int .i64 (fW .i64 (z4 + x2_4))) :: (28, .int .i64 (fW .i64 (z4 + x2_4))) :: (27, .int .i64 x2_4) :: (26, .str x2_3) :: E4)) (H' := (mkH [])) (by kernel_rfl) ?_
     exact oT (r := (fW .i64 (z4 + x2_4))) (xs := [.int .i64 (fW .i64 (z4 + x2_4))]) (v := .int .i64 (fW .i64 (z4 + x2_4))) (by kernel_rfl) (by kernel_rfl) (by kernel_rfl) (.pures (by kernel_rfl)) (by kernel_rfl)
   ·refine oS 19 (b := !decide (x1_3 = 1)) (by kernel_rfl) (fun hb => ?_) (fun hb => ?_)
    ·refine oR 4 (p' := g36p7) (eE := ((22, .bool (!decide (x1_3 = 2))) :: (21, .bool (!decide (x1_3 = 2))) :: (20, .int .i64 x1_3) :: (19, .bool true) :: E2)) (H' := (mkH [])) (by kernel_rfl) ?_
     refine oK [0, 3, 22] (eE := [(0, .str a0), (3, .int .i64 z4), (22, .bool (!decide (x1_3 = 2)))]) (by kernel_rfl) ?_
     exact hj5 (!decide (x1_3 = 2))
    ·refine oR 4 (p' := g36p7) (eE := ((22, .bool false) :: (21, .tuple []) :: (20, .tuple []) :: (19, .bool false) :: E2)) (H' := (mkH [])) (by kernel_rfl) ?_
     refine oK [0, 3, 22] (eE := [(0, .str a0), (3, .int .i64 z4), (22, .bool false)]) (by kernel_rfl) ?_
     exact hj5 false
  ·refine oS 12 (b := z3) (by kernel_rfl) (fun hb => ?_) (fun hb => ?_)
   ·let E5 : Env := [(3, .int .i64 2), (12, .bool true), (0, .str a0), (3, .int .i64 1), (12, .bool z3)]
    refine oR 6 (p' := g36p5) (eE := E5) (H' := (mkH [])) (by kernel_rfl) ?_
    refine oK [0, 3] (eE := [(0, .str a0), (3, .int .i64 2)]) (by kernel_rfl) ?_
    exact hj4 2
   ·refine oR 4 (p' := g36p5) (eE := [(12, .bool false), (0, .str a0), (3, .int .i64 1), (12, .bool z3)]) (H' := (mkH [])) (by kernel_rfl) ?_
    refine oK [0, 3] (eE := [(0, .str a0), (3, .int .i64 1)]) (by kernel_rfl) ?_
    exact hj4 1
 ·refine oS 8 (b := decide (1 < (a0.length : Int))) (by kernel_rfl) (fun hb => ?_) (fun hb => ?_)
  ·refine oR 1 (p' := (atN 5 (ctl1 g36p2))) (eE := ((9, .str a0) :: (8, .bool true) :: E1)) (H' := (mkH [])) (by kernel_rfl) ?_
   refine oH (fun (x0_5 : Int) => (.int .u8 x0_5, (mkH []))) (atN 6 (ctl1 g36p2)) (fun x0_5 => ((10, .int .u8 x0_5) :: (9, .str a0) :: (8, .bool true) :: E1)) (idxH (by kernel_rfl)) (fun _ => by kernel_rfl) (fun x0_5 hx0_5 => ?_)
   let E6 : Env := ((12, .bool (decide (x0_5 = 63))) :: (11, .bool (decide (x0_5 = 63))) :: (10, .int .u8 x0_5) :: (9, .str a0) :: (8, .bool true) :: E1)
   refine oR 3 (p' := g36p3) (eE := E6) (H' := (mkH [])) (by kernel_rfl) ?_
   refine oK [0, 3, 12] (eE := [(0, .str a0), (3, .int .i64 1), (12, .bool (decide (x0_5 = 63)))]) (by kernel_rfl) ?_
   exact hj3 (decide (x0_5 = 63))
  ·let E7 : Env := ((12, .bool false) :: (11, .tuple []) :: (10, .tuple []) :: (9, .tuple []) :: (8, .bool false) :: E1)
   refine oR 5 (p' := g36p3) (eE := E7) (H' := (mkH [])) (by kernel_rfl) ?_
   refine oK [0, 3, 12] (eE := [(0, .str a0), (3, .int .i64 1), (12, .bool false)]) (by kernel_rfl) ?_
   exact hj3 false
end
end Go.Proofs.Ytokcjgjgojlhbaa.Am
set_option maxRecDepth 100000
set_option linter.unusedVariables false
namespace Go.Proofs.Ytokcjgjgojlhbaa.Am
noncomputable section
open Go
def X38 : Fx (Int × Int) := ⟨Try.prog, cx, Try.f38, fun r => .tuple [.int .i64 r.1, .int .i64 r.2], 0, fun _ => H0, cxTi, cxOrd⟩
def g38p0 : Pt := nav [0] (bodyAt Try.f38)
def g38p1 : Pt := nav [0, 0, 0] g38p0
def g38p2 : Pt := nav [0, 0, 0, 0] g38p1
def g38p3 : Pt := nav [0, 0] g38p2
def g38p4 : Pt := nav [1, 0] g38p3
def g38p5 : Pt := nav [2, 0, 0, 0] g38p3
def g38p6 : Pt := nav [0, 0, 0] g38p4
def g38p7 : Pt := nav [0, 0] g38p5
def g38p8 : Pt := nav [0, 0, 0] g38p6
def g38p11 : Pt := nav [0, 0] g38p8
def g38 (k : Nat) (a0 : (List Nat)) : Option (Int × Int) :=
 (g55 k a0).bind fun x0_1 => jn (fun (z6 : Int × Int) => jn (fun (z7 : Bool) => if z7 then (some ((0 : Int), (0 : Int))) else (some (z6.2, z6.1))) (fun j7 => if (decide (z6.2 < (a0.length : Int))) then ((nthS a0 z6.2).bind fun x4_7 => (g58 k x4_7).bind fun x4_8 => j7 x4_8) else (j7 false))) (fun j6 => if (decide (x0_1 = 0)) then ((g56 k a0).bind fun x1_1 => (g57 k a0).bind fun x2_1 => jn (fun (z5 : Bool) => if z5 then (some ((0 : Int), (0 : Int))) else (j6 (3, x1_1))) (fun j5 => if (decide (x1_1 < (a0.length : Int))) then ((nthS a0 x1_1).bind fun x3_7 => if (decide (x3_7 = 35)) then (if (decide (x2_1.1 = 0)) then (j5 true) else (j5 (decide (x1_1 < x2_1.1)))) else (j5 false)) else (j5 false))) else (j6 (4, x0_1)))
theorem g38_ok (k : Nat) (a0 : (List Nat)) (r : (Int × Int)) (h : g38 k a0 = some r) : PureOk Try.prog 38 [.str a0] (.tuple [.int .i64 r.1, .int .i64 r.2]) := by
 refine pure_of X38 (fun _ => rfl) Try.func38 (by decide +kernel) (by kernel_rfl) (t := g38 k a0) ?_ h
 unfold g38
 refine oE (eE := [(0, .str a0)]) (by kernel_rfl) ?_
 refine oR 8 (p' := (atN 1 (ctl1 g38p1))) (eE := [(8, .str a0), (3, .int .i64 0), (2, .int .i64 0), (0, .str a0)]) (H' := (mkH [])) (by kernel_rfl) ?_
 refine oC (fun (x0_1 : Int) => .int .i64 x0_1) (atN 2 (ctl1 g38p1)) (fun x0_1 => [(9, .int .i64 x0_1), (8, .str a0), (3, .int .i64 0), (2, .int .i64 0), (0, .str a0)]) (fi := 55) (args := [.str a0]) (by kernel_rfl) (by kernel_rfl) (fun _ => by kernel_rfl) (fun r h => g55_ok k a0 r h) (fun _ => by kernel_rfl) (fun x0_1 hx0_1 => ?_)
 let E1 : Env := [(11, .bool (decide (x0_1 = 0))), (10, .int .i64 x0_1), (5, .int .i64 x0_1), (4, .int .i64 4), (9, .int .i64 x0_1), (8, .str a0), (3, .int .i64 0), (2, .int .i64 0), (0, .str a0)]
 refine oR 9 (p' := g38p3) (eE := E1) (H' := (mkH [])) (by kernel_rfl) ?_
 refine oJ (f := fun (z6 : Int × Int) => jn (fun (z7 : Bool) => if z7 then (some ((0 : Int), (0 : Int))) else (some (z6.2, z6.1))) (fun j7 => if (decide (z6.2 < (a0.length : Int))) then ((nthS a0 z6.2).bind fun x4_7 => (g58 k x4_7).bind fun x4_8 => j7 x4_8) else (j7 false))) g38p5 (fun (z6 : Int × Int) => [(0, .str a0), (4, .int .i64 z6.1), (5, .int .i64 z6.2)]) (fun (z6 : Int × Int) => (mkH [])) (fun z6 => ?_) (fun j6 hj6 => ?_)
 ·let E2 : Env := [(42, .bool (decide (z6.2 < (a0.length : Int)))), (41, .bool (decide (z6.2 < (a0.length : Int)))), (40, .int .i64 (a0.length : Int)), (39, .str a0), (38, .int .i64 z6.2), (0, .str a0), (4, .int .i64 z6.1), (5, .int .i64 z6.2)]
  refine oR 6 (p' := (atN 5 (ctl1 g38p5))) (eE := E2) (H' := (mkH [])) (by kernel_rfl) ?_
  refine oJ (f := fun (z7 : Bool) => if z7 then (some ((0 : Int), (0 : Int))) else (some (z6.2, z6.1))) g38p7 (fun (z7 : Bool) => [(4, .int .i64 z6.1), (5, .int .i64 z6.2), (47, .bool z7)]) (fun (z7 : Bool) => (mkH [])) (fun z7 => ?_) (fun j7 hj7 => ?_)
  ·refine oS 47 (b := z7) (by kernel_rfl) (fun hb => ?_) (fun hb => ?_)
   ·let E3 : Env := [(3, .int .i64 0), (2, .int .i64 0), (47, .bool true), (4, .int .i64 z6.1), (5, .int .i64 z6.2), (47, .bool z7)]
    refine oR 7 (p' := .fin) (eE := E3) (H' := (mkH [])) (by kernel_rfl) ?_
    exact oT (r := ((0 : Int), (0 : Int))) (xs := [.int .i64 0, .int .i64 0]) (v := .tuple [.int .i64 0, .int .i64 0]) (by kernel_rfl) (by kernel_rfl) (by kernel_rfl) (.pures (by kernel_rfl)) (by kernel_rfl)
   ·let E4 : Env := [(3, .int .i64 z6.1), (2, .int .i64 z6.2), (49, .int .i64 z6.1), (48, .int .i64 z6.2), (47, .bool false), (4, .int .i64 z6.1), (5, .int .i64 z6.2), (47, .bool z7)]
    refine oR 10 (p' := .fin) (eE := E4) (H' := (mkH [])) (by kernel_rfl) ?_
    exact oT (r := (z6.2, z6.1)) (xs := [.int .i64 z6.2, .int .i64 z6.1]) (v := .tuple [.int .i64 z6.2, .int .i64 z6.1]) (by kernel_rfl) (by kernel_rfl) (by kernel_rfl) (.pures (by kernel_rfl)) (by kernel_rfl)
  ·refine oS 42 (b := decide (z6.2 < (a0.length : Int))) (by kernel_rfl) (fun hb => ?_) (fun hb => ?_)
   ·refine oR 2 (p' := (atN 7 (ctl1 g38p5))) (eE := ((44, .int .i64 z6.2) :: (43, .str a0) :: (42, .bool true) :: E2)) (H' := (mkH [])) (by kernel_rfl) ?_
    refine oH (fun (x4_7 : Int) => (.int .u8 x4_7, (mkH []))) (atN 8 (ctl1 g38p5)) (fun x4_7 => ((45, .int .u8 x4_7) :: (44, .int .i64 z6.2) :: (43, .str a0) :: (42, .bool true) :: E2)) (idxH (by kernel_rfl)) (fun _ => by kernel_rfl) (fun x4_7 hx4_7 => ?_)
    refine oC (fun (x4_8 : Bool) => .bool x4_8) (atN 9 (ctl1 g38p5)) (fun x4_8 => ((46, .bool x4_8) :: (45, .int .u8 x4_7) :: (44, .int .i64 z6.2) :: (43, .str a0) :: (42, .bool true) :: E2)) (fi := 58) (args := [.int .u8 x4_7]) (by kernel_rfl) (by kernel_rfl) (fun _ => by kernel_rfl) (fun r h => g58_ok k x4_7 r h) (fun _ => by kernel_rfl) (fun x4_8 hx4_8 => ?_)
    let E5 : Env := ((47, .bool x4_8) :: (46, .bool x4_8) :: (45, .int .u8 x4_7) :: (44, .int .i64 z6.2) :: (43, .str a0) :: (42, .bool true) :: E2)
    refine oR 2 (p' := g38p7) (eE := E5) (H' := (mkH [])) (by kernel_rfl) ?_
    refine oK [4, 5, 47] (eE := [(4, .int .i64 z6.1), (5, .int .i64 z6.2), (47, .bool x4_8)]) (by kernel_rfl) ?_
    exact hj7 x4_8
   ·let E6 : Env := ((47, .bool false) :: (46, .tuple []) :: (45, .tuple []) :: (44, .tuple []) :: (43, .tuple []) :: (42, .bool false) :: E2)
    refine oR 6 (p' := g38p7) (eE := E6) (H' := (mkH [])) (by kernel_rfl) ?_
    refine oK [4, 5, 47] (eE := [(4, .int .i64 z6.1), (5, .int .i64 z6.2), (47, .bool false)]) (by kernel_rfl) ?_
    exact hj7 false
 ·refine oS 11 (b := decide (x0_1 = 0)) (by kernel_rfl) (fun hb => ?_) (fun hb => ?_)
  ·refine oR 4 (p' := (atN 1 (ctl1 g38p4))) (eE := ((12, .str a0) :: (11, .bool true) :: E1)) (H' := (mkH [])) (by kernel_rfl) ?_
   refine oC (fun (x1_1 : Int) => .int .i64 x1_1) (atN 2 (ctl1 g38p4)) (fun x1_1 => ((13, .int .i64 x1_1) :: (12, .str a0) :: (11, .bool true) :: E1)) (fi := 56) (args := [.str a0]) (by kernel_rfl) (by kernel_rfl) (fun _ => by kernel_rfl) (fun r h => g56_ok k a0 r h) (fun _ => by kernel_rfl) (fun x1_1 hx1_1 => ?_)
   let E7 : Env := ((5, .int .i64 x1_1) :: (4, .int .i64 3) :: (13, .int .i64 x1_1) :: (12, .str a0) :: (11, .bool true) :: E1)
   refine oR 4 (p' := g38p6) (eE := E7) (H' := (mkH [])) (by kernel_rfl) ?_
   refine oK [0, 4, 5] (eE := [(0, .str a0), (4, .int .i64 3), (5, .int .i64 x1_1)]) (by kernel_rfl) ?_
   refine oR 2 (p' := (atN 1 (ctl1 g38p6))) (eE := [(15, .str a0), (0, .str a0), (4, .int .i64 3), (5, .int .i64 x1_1)]) (H' := (mkH [])) (by kernel_rfl) ?_
   refine oC (fun (x2_1 : (Int × Int)) => .tuple [.int .i64 x2_1.1, .int .i64 x2_1.2]) (atN 2 (ctl1 g38p6)) (fun x2_1 => [(16, .tuple [.int .i64 x2_1.1, .int .i64 x2_1.2]), (15, .str a0), (0, .str a0), (4, .int .i64 3), (5, .int .i64 x1_1)]) (fi := 57) (args := [.str a0]) (by kernel_rfl) (by kernel_rfl) (fun _ => by kernel_rfl) (fun r h => g57_ok k a0 r h) (fun _ => by kernel_rfl) (fun x2_1 hx2_1 => ?_)
   let E8 : Env := [(23, .bool (decide (x1_1 < (a0.length : Int)))), (22, .bool (decide (x1_1 < (a0.length : Int)))), (21, .int .i64 (a0.length : Int)), (20, .str a0), (19, .int .i64 x1_1), (7, .int .i64 x2_1.2), (6, .int .i64 x2_1.1), (18, .int .i64 x2_1.2), (17, .int .i64 x2_1.1), (14, .tuple [.int .i64 x2_1.1, .int .i64 x2_1.2]), (16, .tuple [.int .i64 x2_1.1, .int .i64 x2_1.2]), (15, .str a0), (0, .str a0), (4, .int .i64 3), (5, .int .i64 x1_1)]
   refine oR 13 (p' := (atN 5 (ctl1 g38p8))) (eE := E8) (H' := (mkH [])) (by kernel_rfl) ?_
   refine oJ (f := fun (z5 : Bool) => if z5 then (some ((0 : Int), (0 : Int))) else (j6 (3, x1_1))) g38p11 (fun (z5 : Bool) => [(0, .str a0), (4, .int .i64 3), (5, .int .i64 x1_1), (37, .bool z5)]) (fun (z5 : Bool) => (mkH [])) (fun z5 => ?_) (fun j5 hj5 => ?_)
   ·refine oS 37 (b := z5) (by kernel_rfl) (fun hb => ?_) (fun hb => ?_)
    ·let E9 : Env := [(3, .int .i64 0), (2, .int .i64 0), (37, .bool true), (0, .str a0), (4, .int .i64 3), (5, .int .i64 x1_1), (37, .bool z5)]
     refine oR 7 (p' := .fin) (eE := E9) (H' := (mkH [])) (by kernel_rfl) ?_
     exact oT (r := ((0 : Int), (0 : Int))) (xs := [.int .i64 0, .int .i64 0]) (v := .tuple [.int .i64 0, .int .i64 0]) (by kernel_rfl) (by kernel_rfl) (by kernel_rfl) (.pures (by kernel_rfl)) (by kernel_rfl)
    ·let E10 : Env := [(37, .bool false), (0, .str a0), (4, .int .i64 3), (5, .int .i64 x1_1), (37, .bool z5)]
     refine oR 4 (p' := g38p5) (eE := E10) (H' := (mkH [])) (by kernel_rfl) ?_
     refine oK [0, 4, 5] (eE := [(0, .str a0), (4, .int .i64 3), (5, .int .i64 x1_1)]) (by kernel_rfl) ?_
     exact hj6 (3, x1_1)
   ·refine oS 23 (b := decide (x1_1 < (a0.length : Int))) (by kernel_rfl) (fun hb => ?_) (fun hb => ?_)
    ·refine oR 2 (p' := (atN 7 (ctl1 g38p8))) (eE := ((25, .int .i64 x1_1) :: (24, .str a0) :: (23, .bool true) :: E8)) (H' := (mkH [])) (by kernel_rfl) ?_
     refine oH (fun (x3_7 : Int) => (.int .u8 x3_7, (mkH []))) (atN 8 (ctl1 g38p8)) (fun x3_7 => ((26, .int .u8 x3_7) :: (25, .int .i64 x1_1) :: (24, .str a0) :: (23, .bool true) :: E8)) (idxH (by kernel_rfl)) (fun _ => by kernel_rfl) (fun x3_7 hx3_7 => ?_)
     let E11 : Env := ((29, .bool (decide (x3_7 = 35))) :: (28, .bool (decide (x3_7 = 35))) :: (27, .bool (decide (x3_7 = 35))) :: (26, .int .u8 x3_7) :: (25, .int .i64 x1_1) :: (24, .str a0) :: (23, .bool true) :: E8)
     refine oR 3 (p' := (atN 11 (ctl1 g38p8))) (eE := E11) (H' := (mkH [])) (by kernel_rfl) ?_
     refine oS 29 (b := decide (x3_7 = 35)) (by kernel_rfl) (fun hb => ?_) (fun hb => ?_)
     ·refine oR 3 (p' := (atN 14 (ctl1 g38p8))) (eE := ((32, .bool (decide (x2_1.1 = 0))) :: (31, .bool (decide (x2_1.1 = 0))) :: (30, .int .i64 x2_1.1) :: (29, .bool true) :: E11)) (H' := (mkH [])) (by kernel_rfl) ?_
      refine oS 32 (b := decide (x2_1.1 = 0)) (by kernel_rfl) (fun hb => ?_) (fun hb => ?_)
      ·let E12 : Env := ((37, .bool true) :: (36, .bool true) :: (35, .tuple []) :: (34, .tuple []) :: (33, .tuple []) :: (32, .bool true) :: (32, .bool (decide (x2_1.1 = 0))) :: (31, .bool (decide (x2_1.1 = 0))) :: (30, .int .i64 x2_1.1) :: (29, .bool true) :: E11)
       refine oR 6 (p' := g38p11) (eE := E12) (H' := (mkH [])) (by kernel_rfl) ?_
       refine oK [0, 4, 5, 37] (eE := [(0, .str a0), (4, .int .i64 3), (5, .int .i64 x1_1), (37, .bool true)]) (by kernel_rfl) ?_
       exact hj5 true
      ·let E13 : Env := ((37, .bool (decide (x1_1 < x2_1.1))) :: (36, .bool (decide (x1_1 < x2_1.1))) :: (35, .bool (decide (x1_1 < x2_1.1))) :: (34, .int .i64 x2_1.1) :: (33, .int .i64 x1_1) :: (32, .bool false) :: (32, .bool (decide (x2_1.1 = 0))) :: (31, .bool (decide (x2_1.1 = 0))) :: (30, .int .i64 x2_1.1) :: (29, .bool true) :: E11)
       refine oR 6 (p' := g38p11) (eE := E13) (H' := (mkH [])) (by kernel_rfl) ?_
       refine oK [0, 4, 5, 37] (eE := [(0, .str a0), (4, .int .i64 3), (5, .int .i64 x1_1), (37, .bool (decide (x1_1 < x2_1.1)))]) (by kernel_rfl) ?_
       exact hj5 (decide (x1_1 < x2_1.1))
     ·let E14 : Env := ((37, .bool false) :: (36, .tuple []) :: (35, .tuple []) :: (34, .tuple []) :: (33, .tuple []) :: (32, .tuple []) :: (31, .tuple []) :: (30, .tuple []) :: (29, .bool false) :: E11)
      refine oR 9 (p' := g38p11) (eE := E14) (H' := (mkH [])) (by kernel_rfl) ?_
      refine oK [0, 4, 5, 37] (eE := [(0, .str a0), (4, .int .i64 3), (5, .int .i64 x1_1), (37, .bool false)]) (by kernel_rfl) ?_
      exact hj5 false
    ·let E15 : Env := ((37, .bool false) :: (36, .tuple []) :: (35, .tuple []) :: (34, .tuple []) :: (33, .tuple []) :: (32, .tuple []) :: (31, .tuple []) :: (30, .tuple []) :: (29, .bool false) :: (28, .bool false) :: (27, .tuple []) :: (26, .tuple []) :: (25, .tuple []) :: (24, .tuple []) :: (23, .bool false) :: E8)
     refine oR 15 (p' := g38p11) (eE := E15) (H' := (mkH [])) (by kernel_rfl) ?_
     refine oK [0, 4, 5, 37] (eE := [(0, .str a0), (4, .int .i64 3), (5, .int .i64 x1_1), (37, .bool false)]) (by kernel_rfl) ?_
     exact hj5 false
  ·refine oR 4 (p' := g38p5) (eE := ((11, .bool false) :: E1)) (H' := (mkH [])) (by kernel_rfl) ?_
   refine oK [0, 4, 5] (eE := [(0, .str a0), (4, .int .i64 4), (5, .int .i64 x0_1)]) (by kernel_rfl) ?_
   exact hj6 (4, x0_1)
end
end Go.Proofs.Ytokcjgjgojlhbaa.Am
set_option maxRecDepth 100000
set_option linter.unusedVariables false
namespace Go.Proofs.Ytokcjgjgojlhbaa.Am
noncomputable section
open Go
def X20 : Fx (Int × Int) := ⟨Try.prog, cx, Try.f20, fun r => .tuple [.int .i64 r.1, .int .i64 r.2], 0, fun _ => H0, cxTi, cxOrd⟩
def g20p0 : Pt := nav [0] (bodyAt Try.f20)
def g20p1 : Pt := nav [0, 0, 0] g20p0
def g20p2 : Pt := nav [0, 0, 0, 0, 0] g20p1
def g20p3 : Pt := nav [0, 0] g20p2
def g20p4 : Pt := nav [1, 0] g20p3
def g20p5 : Pt := nav [2, 0] g20p3
def g20p7 : Pt := nav [0, 0] g20p5
def g20p9 : Pt := nav [2, 0] g20p7
def g20p10 : Pt := nav [0, 0] g20p9
def g20p11 : Pt := nav [1, 0] g20p10
def g20p12 : Pt := nav [2, 0] g20p10
def g20p13 : Pt := nav [0, 0] g20p12
def g20p14 : Pt := nav [1, 0] g20p13
def g20p15 : Pt := nav [2, 0] g20p13
def g20p16 : Pt := nav [0, 0] g20p15
def g20p17 : Pt := nav [1, 0] g20p16
def g20p18 : Pt := nav [2, 0] g20p16
def g20p19 : Pt := nav [0, 0] g20p18
def g20p20 : Pt := nav [1, 0] g20p19
def g20p21 : Pt := nav [2, 0, 0, 0] g20p19
def g20p22 : Pt := nav [0, 0, 0] g20p21
def g20p23 : Pt := nav [0, 0, 0, 0] g20p22
def g20p24 : Pt := nav [0, 0] g20p23
def g20p25 : Pt := nav [1, 0] g20p24
def g20p26 : Pt := nav [2, 0, 0] g20p24
def g20p27 : Pt := nav [0, 0] g20p26
def g20p28 : Pt := nav [1, 0] g20p27
def g20p30 : Pt := nav [1, 0] g20p28
def g20p31 : Pt := nav [2, 0, 0] g20p28
def g20p32 : Pt := nav [0, 0, 0, 0] g20p30
def g20p33 : Pt := nav [0, 0] g20p32
def g20p35 : Pt := nav [2, 0, 0] g20p33
def g20 (k : Nat) (a0 : (List Nat)) : Option (Int × Int) :=
 (nthS a0 0).bind fun x0_1 => if (decide (x0_1 = 37)) then ((g33 k a0).bind fun x1_1 => some (x1_1, (11 : Int))) else (jn (fun (z12 : Bool) => if z12 then (some ((1 : Int), (10 : Int))) else (if (decide (x0_1 = 39)) then ((g34 k a0).bind fun x3_1 => some (x3_1, (1 : Int))) else (if (decide (x0_1 = 34)) then ((g34 k a0).bind fun x4_1 => some (x4_1, (6 : Int))) else (if (decide (x0_1 = 36)) then ((g35 k a0).bind fun x5_1 => some (x5_1, (5 : Int))) else (if (decide (x0_1 = 63)) then ((g36 k a0).bind fun x6_1 => some (x6_1, (7 : Int))) else ((g37 k x0_1).bind fun x7_1 => if (decide (x7_1 = 3)) then ((g38 k a0).bind fun x8_1 => some (x8_1.1, x8_1.2)) else (jn (fun (z13 : Bool) => if z13 then ((g39 k a0).bind fun x9_1 => (subL a0 none (some x9_1)).bind fun x10_2 => (g40 k x10_2).bind fun x10_3 => jn (fun (z14 : Int) => some (x9_1, z14)) (fun j14 => if x10_3 then (j14 8) else (j14 x7_1))) else ((g41 k a0 (0 : Int)).bind fun x11_1 => some (x11_1, (9 : Int)))) (fun j13 => if (decide (x7_1 = 1)) then (j13 true) else (j13 (decide (x7_1 = 2))))))))))) (fun j12 => if (decide (x0_1 = 46)) then (if (decide ((a0.length : Int) = 1)) then (j12 true) else ((nthS a0 1).bind fun x2_8 => (g30 k x2_8).bind fun x2_9 => if x2_9 then (j12 true) else ((nthS a0 1).bind fun x2_13 => j12 (decide (x2_13 = 37))))) else (j12 false)))
theorem g20_ok (k : Nat) (a0 : (List Nat)) (r : (Int × Int)) (h : g20 k a0 = some r) : PureOk Try.prog 20 [.str a0] (.tuple [.int .i64 r.1, .int .i64 r.2]) := by
 refine pure_of X20 (fun _ => rfl) Try.func20 (by decide +kernel) (by kernel_rfl) (t := g20 k a0) ?_ h
 unfold g20
 refine oE (eE := [(0, .str a0)]) (by kernel_rfl) ?_
 refine oR 8 (p' := (atN 1 (ctl1 g20p1))) (eE := [(7, .str a0), (3, .int .i64 0), (2, .int .i64 0), (0, .str a0)]) (H' := (mkH [])) (by kernel_rfl) ?_
 refine oH (fun (x0_1 : Int) => (.int .u8 x0_1, (mkH []))) (atN 2 (ctl1 g20p1)) (fun x0_1 => [(8, .int .u8 x0_1), (7, .str a0), (3, .int .i64 0), (2, .int .i64 0), (0, .str a0)]) (idxH (by kernel_rfl)) (fun _ => by kernel_rfl) (fun x0_1 hx0_1 => ?_)
 let E1 : Env := [(9, .bool (decide (x0_1 = 37))), (11, .bool (decide (x0_1 = 37))), (10, .int .u8 x0_1), (4, .int .u8 x0_1), (8, .int .u8 x0_1), (7, .str a0), (3, .int .i64 0), (2, .int .i64 0), (0, .str a0)]
 refine oR 10 (p' := g20p3) (eE := E1) (H' := (mkH [])) (by kernel_rfl) ?_
 refine oS 9 (b := decide (x0_1 = 37)) (by kernel_rfl) (fun hb => ?_) (fun hb => ?_)
 ·refine oR 4 (p' := (atN 1 (ctl1 g20p4))) (eE := ((12, .str a0) :: (9, .bool true) :: E1)) (H' := (mkH [])) (by kernel_rfl) ?_
  refine oC (fun (x1_1 : Int) => .int .i64 x1_1) (atN 2 (ctl1 g20p4)) (fun x1_1 => ((13, .int .i64 x1_1) :: (12, .str a0) :: (9, .bool true) :: E1)) (fi := 33) (args := [.str a0]) (by kernel_rfl) (by kernel_rfl) (fun _ => by kernel_rfl) (fun r h => g33_ok k a0 r h) (fun _ => by kernel_rfl) (fun x1_1 hx1_1 => ?_)
  let E2 : Env := ((3, .int .i64 11) :: (2, .int .i64 x1_1) :: (13, .int .i64 x1_1) :: (12, .str a0) :: (9, .bool true) :: E1)
  refine oR 4 (p' := .fin) (eE := E2) (H' := (mkH [])) (by kernel_rfl) ?_
  exact oT (r := (x1_1, (11 : Int))) (xs := [.int .i64 x1_1, .int .i64 11]) (v := .tuple [.int .i64 x1_1, .int .i64 11]) (by kernel_rfl) (by kernel_rfl) (by kernel_rfl) (.pures (by kernel_rfl)) (by kernel_rfl)
 ·refine oR 6 (p' := (atN 3 (ctl1 g20p5))) (eE := ((17, .bool (decide (x0_1 = 46))) :: (16, .bool (decide (x0_1 = 46))) :: (15, .int .u8 x0_1) :: (9, .bool false) :: E1)) (H' := (mkH [])) (by kernel_rfl) ?_
  refine oJ (f := fun (z12 : Bool) => if z12 then (some ((1 : Int), (10 : Int))) else (if (decide (x0_1 = 39)) then ((g34 k a0).bind fun x3_1 => some (x3_1, (1 : Int))) else (if (decide (x0_1 = 34)) then ((g34 k a0).bind fun x4_1 => some (x4_1, (6 : Int))) else (if (decide (x0_1 = 36)) then ((g35 k a0).bind fun x5_1 => some (x5_1, (5 : Int))) else (if (decide (x0_1 = 63)) then ((g36 k a0).bind fun x6_1 => some (x6_1, (7 : Int))) else ((g37 k x0_1).bind fun x7_1 => if (decide (x7_1 = 3)) then ((g38 k a0).bind fun x8_1 => some (x8_1.1, x8_1.2)) else (jn (fun (z13 : Bool) => if z13 then ((g39 k a0).bind fun x9_1 => (subL a0 none (some x9_1)).bind fun x10_2 => (g40 k x10_2).bind fun x10_3 => jn (fun (z14 : Int) => some (x9_1, z14)) (fun j14 => if x10_3 then (j14 8) else (j14 x7_1))) else ((g41 k a0 (0 : Int)).bind fun x11_1 => some (x11_1, (9 : Int)))) (fun j13 => if (decide (x7_1 = 1)) then (j13 true) else (j13 (decide (x7_1 = 2))))))))))) g20p7 (fun (z12 : Bool) => [(0, .str a0), (4, .int .u8 x0_1), (14, .bool z12)]) (fun (z12 : Bool) => (mkH [])) (fun z12 => ?_) (fun j12 hj12 => ?_)
  ·refine oS 14 (b := z12) (by kernel_rfl) (fun hb => ?_) (fun hb => ?_)
   ·let E3 : Env := [(3, .int .i64 10), (2, .int .i64 1), (14, .bool true), (0, .str a0), (4, .int .u8 x0_1), (14, .bool z12)]
    refine oR 7 (p' := .fin) (eE := E3) (H' := (mkH [])) (by kernel_rfl) ?_
    exact oT (r := ((1 : Int), (10 : Int))) (xs := [.int .i64 1, .int .i64 10]) (v := .tuple [.int .i64 1, .int .i64 10]) (by kernel_rfl) (by kernel_rfl) (by kernel_rfl) (.pures (by kernel_rfl)) (by kernel_rfl)
   ·let E4 : Env := [(32, .bool (decide (x0_1 = 39))), (34, .bool (decide (x0_1 = 39))), (33, .int .u8 x0_1), (14, .bool false), (0, .str a0), (4, .int .u8 x0_1), (14, .bool z12)]
    refine oR 7 (p' := g20p10) (eE := E4) (H' := (mkH [])) (by kernel_rfl) ?_
    refine oS 32 (b := decide (x0_1 = 39)) (by kernel_rfl) (fun hb => ?_) (fun hb => ?_)
    ·refine oR 4 (p' := (atN 1 (ctl1 g20p11))) (eE := ((35, .str a0) :: (32, .bool true) :: E4)) (H' := (mkH [])) (by kernel_rfl) ?_
     refine oC (fun (x3_1 : Int) => .int .i64 x3_1) (atN 2 (ctl1 g20p11)) (fun x3_1 => ((36, .int .i64 x3_1) :: (35, .str a0) :: (32, .bool true) :: E4)) (fi := 34) (args := [.str a0]) (by kernel_rfl) (by kernel_rfl) (fun _ => by kernel_rfl) (fun r h => g34_ok k a0 r h) (fun _ => by kernel_rfl) (fun x3_1 hx3_1 => ?_)
     let E5 : Env := ((3, .int .i64 1) :: (2, .int .i64 x3_1) :: (36, .int .i64 x3_1) :: (35, .str a0) :: (32, .bool true) :: E4)
     refine oR 4 (p' := .fin) (eE := E5) (H' := (mkH [])) (by kernel_rfl) ?_
     exact oT (r := (x3_1, (1 : Int))) (xs := [.int .i64 x3_1, .int .i64 1]) (v := .tuple [.int .i64 x3_1, .int .i64 1]) (by kernel_rfl) (by kernel_rfl) (by kernel_rfl) (.pures (by kernel_rfl)) (by kernel_rfl)
    ·refine oR 7 (p' := g20p13) (eE := ((37, .bool (decide (x0_1 = 34))) :: (39, .bool (decide (x0_1 = 34))) :: (38, .int .u8 x0_1) :: (32, .bool false) :: E4)) (H' := (mkH [])) (by kernel_rfl) ?_
     refine oK [0, 4, 37] (eE := [(0, .str a0), (4, .int .u8 x0_1), (37, .bool (decide (x0_1 = 34)))]) (by kernel_rfl) ?_
     refine oS 37 (b := decide (x0_1 = 34)) (by kernel_rfl) (fun hb => ?_) (fun hb => ?_)
     ·let E6 : Env := [(40, .str a0), (37, .bool true), (0, .str a0), (4, .int .u8 x0_1), (37, .bool (decide (x0_1 = 34)))]
      refine oR 4 (p' := (atN 1 (ctl1 g20p14))) (eE := E6) (H' := (mkH [])) (by kernel_rfl) ?_
      refine oC (fun (x4_1 : Int) => .int .i64 x4_1) (atN 2 (ctl1 g20p14)) (fun x4_1 => ((41, .int .i64 x4_1) :: E6)) (fi := 34) (args := [.str a0]) (by kernel_rfl) (by kernel_rfl) (fun _ => by kernel_rfl) (fun r h => g34_ok k a0 r h) (fun _ => by kernel_rfl) (fun x4_1 hx4_1 => ?_)
      refine oR 4 (p' := .fin) (eE := ((3, .int .i64 6) :: (2, .int .i64 x4_1) :: (41, .int .i64 x4_1) :: E6)) (H' := (mkH [])) (by kernel_rfl) ?_
      exact oT (r := (x4_1, (6 : Int))) (xs := [.int .i64 x4_1, .int .i64 6]) (v := .tuple [.int .i64 x4_1, .int .i64 6]) (by kernel_rfl) (by kernel_rfl) (by kernel_rfl) (.pures (by kernel_rfl)) (by kernel_rfl)
     ·let E7 : Env := [(42, .bool (decide (x0_1 = 36))), (44, .bool (decide (x0_1 = 36))), (43, .int .u8 x0_1), (37, .bool false), (0, .str a0), (4, .int .u8 x0_1), (37, .bool (decide (x0_1 = 34)))]
      refine oR 7 (p' := g20p16) (eE := E7) (H' := (mkH [])) (by kernel_rfl) ?_
      refine oS 42 (b := decide (x0_1 = 36)) (by kernel_rfl) (fun hb => ?_) (fun hb => ?_)
      ·refine oR 4 (p' := (atN 1 (ctl1 g20p17))) (eE := ((45, .str a0) :: (42, .bool true) :: E7)) (H' := (mkH [])) (by kernel_rfl) ?_
       refine oC (fun (x5_1 : Int) => .int .i64 x5_1) (atN 2 (ctl1 g20p17)) (fun x5_1 => ((46, .int .i64 x5_1) :: (45, .str a0) :: (42, .bool true) :: E7)) (fi := 35) (args := [.str a0]) (by kernel_rfl) (by kernel_rfl) (fun _ => by kernel_rfl) (fun r h => g35_ok k a0 r h) (fun _ => by kernel_rfl) (fun x5_1 hx5_1 => ?_)
       let E8 : Env := ((3, .int .i64 5) :: (2, .int .i64 x5_1) :: (46, .int .i64 x5_1) :: (45, .str a0) :: (42, .bool true) :: E7)
       refine oR 4 (p' := .fin) (eE := E8) (H' := (mkH [])) (by kernel_rfl) ?_
       exact oT (r := (x5_1, (5 : Int))) (xs := [.int .i64 x5_1, .int .i64 5]) (v := .tuple [.int .i64 x5_1, .int .i64 5]) (by kernel_rfl) (by kernel_rfl) (by kernel_rfl) (.pures (by kernel_rfl)) (by kernel_rfl)
      ·refine oR 7 (p' := g20p19) (eE := ((47, .bool (decide (x0_1 = 63))) :: (49, .bool (decide (x0_1 = 63))) :: (48, .int .u8 x0_1) :: (42, .bool false) :: E7)) (H' := (mkH [])) (by kernel_rfl) ?_
       refine oK [0, 4, 47] (eE := [(0, .str a0), (4, .int .u8 x0_1), (47, .bool (decide (x0_1 = 63)))]) (by kernel_rfl) ?_
       refine oS 47 (b := decide (x0_1 = 63)) (by kernel_rfl) (fun hb => ?_) (fun hb => ?_)
       ·let E9 : Env := [(50, .str a0), (47, .bool true), (0, .str a0), (4, .int .u8 x0_1), (47, .bool (decide (x0_1 = 63)))]
        refine oR 4 (p' := (atN 1 (ctl1 g20p20))) (eE := E9) (H' := (mkH [])) (by kernel_rfl) ?_
        refine oC (fun (x6_1 : Int) => .int .i64 x6_1) (atN 2 (ctl1 g20p20)) (fun x6_1 => ((51, .int .i64 x6_1) :: E9)) (fi := 36) (args := [.str a0]) (by kernel_rfl) (by kernel_rfl) (fun _ => by kernel_rfl) (fun r h => g36_ok k a0 r h) (fun _ => by kernel_rfl) (fun x6_1 hx6_1 => ?_)
        refine oR 4 (p' := .fin) (eE := ((3, .int .i64 7) :: (2, .int .i64 x6_1) :: (51, .int .i64 x6_1) :: E9)) (H' := (mkH [])) (by kernel_rfl) ?_
        exact oT (r := (x6_1, (7 : Int))) (xs := [.int .i64 x6_1, .int .i64 7]) (v := .tuple [.int .i64 x6_1, .int .i64 7]) (by kernel_rfl) (by kernel_rfl) (by kernel_rfl) (.pures (by kernel_rfl)) (by kernel_rfl)
       ·let E10 : Env := [(52, .int .u8 x0_1), (47, .bool false), (0, .str a0), (4, .int .u8 x0_1), (47, .bool (decide (x0_1 = 63)))]
        refine oR 6 (p' := (atN 1 (ctl1 g20p21))) (eE := E10) (H' := (mkH [])) (by kernel_rfl) ?_
        refine oC (fun (x7_1 : Int) => .int .i64 x7_1) (atN 2 (ctl1 g20p21)) (fun x7_1 => ((53, .int .i64 x7_1) :: E10)) (fi := 37) (args := [.int .u8 x0_1]) (by kernel_rfl) (by kernel_rfl) (fun _ => by kernel_rfl) (fun r h => g37_ok k x0_1 r h) (fun _ => by kernel_rfl) (fun x7_1 hx7_1 => ?_)
        let E11 : Env := ((55, .bool (decide (x7_1 = 3))) :: (56, .bool (decide (x7_1 = 3))) :: (54, .int .i64 x7_1) :: (5, .int .i64 x7_1) :: (53, .int .i64 x7_1) :: E10)
        refine oR 12 (p' := g20p24) (eE := E11) (H' := (mkH [])) (by kernel_rfl) ?_
        refine oS 55 (b := decide (x7_1 = 3)) (by kernel_rfl) (fun hb => ?_) (fun hb => ?_)
        ·refine oR 4 (p' := (atN 1 (ctl1 g20p25))) (eE := ((57, .str a0) :: (55, .bool true) :: E11)) (H' := (mkH [])) (by kernel_rfl) ?_
         refine oC (fun (x8_1 : (Int × Int)) => .tuple [.int .i64 x8_1.1, .int .i64 x8_1.2]) (atN 2 (ctl1 g20p25)) (fun x8_1 => ((58, .tuple [.int .i64 x8_1.1, .int .i64 x8_1.2]) :: (57, .str a0) :: (55, .bool true) :: E11)) (fi := 38) (args := [.str a0]) (by kernel_rfl) (by kernel_rfl) (fun _ => by kernel_rfl) (fun r h => g38_ok k a0 r h) (fun _ => by kernel_rfl) (fun x8_1 hx8_1 => ?_)
         let E12 : Env := ((3, .int .i64 x8_1.2) :: (2, .int .i64 x8_1.1) :: (60, .int .i64 x8_1.2) :: (59, .int .i64 x8_1.1) :: (58, .tuple [.int .i64 x8_1.1, .int .i64 x8_1.2]) :: (57, .str a0) :: (55, .bool true) :: E11)
         refine oR 6 (p' := .fin) (eE := E12) (H' := (mkH [])) (by kernel_rfl) ?_
         exact oT (r := (x8_1.1, x8_1.2)) (xs := [.int .i64 x8_1.1, .int .i64 x8_1.2]) (v := .tuple [.int .i64 x8_1.1, .int .i64 x8_1.2]) (by kernel_rfl) (by kernel_rfl) (by kernel_rfl) (.pures (by kernel_rfl)) (by kernel_rfl)
        ·refine oR 7 (p' := g20p27) (eE := ((61, .bool (decide (x7_1 = 1))) :: (62, .bool (decide (x7_1 = 1))) :: (55, .bool false) :: E11)) (H' := (mkH [])) (by kernel_rfl) ?_
         refine oK [0, 5, 54, 61] (eE := [(0, .str a0), (5, .int .i64 x7_1), (54, .int .i64 x7_1), (61, .bool (decide (x7_1 = 1)))]) (by kernel_rfl) ?_
         refine oJ (f := fun (z13 : Bool) => if z13 then ((g39 k a0).bind fun x9_1 => (subL a0 none (some x9_1)).bind fun x10_2 => (g40 k x10_2).bind fun x10_3 => jn (fun (z14 : Int) => some (x9_1, z14)) (fun j14 => if x10_3 then (j14 8) else (j14 x7_1))) else ((g41 k a0 (0 : Int)).bind fun x11_1 => some (x11_1, (9 : Int)))) g20p28 (fun (z13 : Bool) => [(0, .str a0), (5, .int .i64 x7_1), (61, .bool z13)]) (fun (z13 : Bool) => (mkH [])) (fun z13 => ?_) (fun j13 hj13 => ?_)
         ·refine oS 61 (b := z13) (by kernel_rfl) (fun hb => ?_) (fun hb => ?_)
          ·let E13 : Env := [(64, .str a0), (61, .bool true), (0, .str a0), (5, .int .i64 x7_1), (61, .bool z13)]
           refine oR 4 (p' := (atN 1 (ctl1 g20p30))) (eE := E13) (H' := (mkH [])) (by kernel_rfl) ?_
           refine oC (fun (x9_1 : Int) => .int .i64 x9_1) (atN 2 (ctl1 g20p30)) (fun x9_1 => ((65, .int .i64 x9_1) :: E13)) (fi := 39) (args := [.str a0]) (by kernel_rfl) (by kernel_rfl) (fun _ => by kernel_rfl) (fun r h => g39_ok k a0 r h) (fun _ => by kernel_rfl) (fun x9_1 hx9_1 => ?_)
           refine oR 7 (p' := (atN 2 (ctl1 g20p32))) (eE := ((67, .int .i64 x9_1) :: (66, .str a0) :: (6, .int .i64 x9_1) :: (65, .int .i64 x9_1) :: E13)) (H' := (mkH [])) (by kernel_rfl) ?_
           refine oH (fun (x10_2 : (List Nat)) => (.str x10_2, (mkH []))) (atN 3 (ctl1 g20p32)) (fun x10_2 => ((68, .str x10_2) :: (67, .int .i64 x9_1) :: (66, .str a0) :: (6, .int .i64 x9_1) :: (65, .int .i64 x9_1) :: E13)) (subH none (some x9_1) (by kernel_rfl)) (fun _ => by kernel_rfl) (fun x10_2 hx10_2 => ?_)
           refine oC (fun (x10_3 : Bool) => .bool x10_3) (atN 4 (ctl1 g20p32)) (fun x10_3 => ((69, .bool x10_3) :: (68, .str x10_2) :: (67, .int .i64 x9_1) :: (66, .str a0) :: (6, .int .i64 x9_1) :: (65, .int .i64 x9_1) :: E13)) (fi := 40) (args := [.str x10_2]) (by kernel_rfl) (by kernel_rfl) (fun _ => by kernel_rfl) (fun r h => g40_ok k x10_2 r h) (fun _ => by kernel_rfl) (fun x10_3 hx10_3 => ?_)
           let E14 : Env := ((69, .bool x10_3) :: (68, .str x10_2) :: (67, .int .i64 x9_1) :: (66, .str a0) :: (6, .int .i64 x9_1) :: (65, .int .i64 x9_1) :: E13)
           refine oR 1 (p' := g20p33) (eE := E14) (H' := (mkH [])) (by kernel_rfl) ?_
           refine oK [5, 6, 69] (eE := [(5, .int .i64 x7_1), (6, .int .i64 x9_1), (69, .bool x10_3)]) (by kernel_rfl) ?_
           refine oJ (f := fun (z14 : Int) => some (x9_1, z14)) g20p35 (fun (z14 : Int) => [(5, .int .i64 z14), (6, .int .i64 x9_1)]) (fun (z14 : Int) => (mkH [])) (fun z14 => ?_) (fun j14 hj14 => ?_)
           ·let E15 : Env := [(3, .int .i64 z14), (2, .int .i64 x9_1), (71, .int .i64 z14), (70, .int .i64 x9_1), (5, .int .i64 z14), (6, .int .i64 x9_1)]
            refine oR 7 (p' := .fin) (eE := E15) (H' := (mkH [])) (by kernel_rfl) ?_
            exact oT (r := (x9_1, z14)) (xs := [.int .i64 x9_1, .int .i64 z14]) (v := .tuple [.int .i64 x9_1, .int .i64 z14]) (by kernel_rfl) (by kernel_rfl) (by kernel_rfl) (.pures (by kernel_rfl)) (by kernel_rfl)
           ·refine oS 69 (b := x10_3) (by kernel_rfl) (fun hb => ?_) (fun hb => ?_)
            ·let E16 : Env := [(5, .int .i64 8), (69, .bool true), (5, .int .i64 x7_1), (6, .int .i64 x9_1), (69, .bool x10_3)]
             refine oR 5 (p' := g20p35) (eE := E16) (H' := (mkH [])) (by kernel_rfl) ?_
             refine oK [5, 6] (eE := [(5, .int .i64 8), (6, .int .i64 x9_1)]) (by kernel_rfl) ?_
             exact hj14 8
            ·refine oR 3 (p' := g20p35) (eE := [(69, .bool false), (5, .int .i64 x7_1), (6, .int .i64 x9_1), (69, .bool x10_3)]) (H' := (mkH [])) (by kernel_rfl) ?_
             refine oK [5, 6] (eE := [(5, .int .i64 x7_1), (6, .int .i64 x9_1)]) (by kernel_rfl) ?_
             exact hj14 x7_1
          ·let E17 : Env := [(72, .str a0), (61, .bool false), (0, .str a0), (5, .int .i64 x7_1), (61, .bool z13)]
           refine oR 5 (p' := (atN 1 (ctl1 g20p31))) (eE := E17) (H' := (mkH [])) (by kernel_rfl) ?_
           refine oC (fun (x11_1 : Int) => .int .i64 x11_1) (atN 2 (ctl1 g20p31)) (fun x11_1 => ((73, .int .i64 x11_1) :: E17)) (fi := 41) (args := [.str a0, .int .i64 0]) (by kernel_rfl) (by kernel_rfl) (fun _ => by kernel_rfl) (fun r h => g41_ok k a0 (0 : Int) r h) (fun _ => by kernel_rfl) (fun x11_1 hx11_1 => ?_)
           refine oR 4 (p' := .fin) (eE := ((3, .int .i64 9) :: (2, .int .i64 x11_1) :: (73, .int .i64 x11_1) :: E17)) (H' := (mkH [])) (by kernel_rfl) ?_
           exact oT (r := (x11_1, (9 : Int))) (xs := [.int .i64 x11_1, .int .i64 9]) (v := .tuple [.int .i64 x11_1, .int .i64 9]) (by kernel_rfl) (by kernel_rfl) (by kernel_rfl) (.pures (by kernel_rfl)) (by kernel_rfl)
         ·refine oS 61 (b := decide (x7_1 = 1)) (by kernel_rfl) (fun hb => ?_) (fun hb => ?_)
          ·let E18 : Env := [(61, .bool true), (0, .str a0), (5, .int .i64 x7_1), (54, .int .i64 x7_1), (61, .bool (decide (x7_1 = 1)))]
           refine oR 2 (p' := g20p28) (eE := E18) (H' := (mkH [])) (by kernel_rfl) ?_
           refine oK [0, 5, 61] (eE := [(0, .str a0), (5, .int .i64 x7_1), (61, .bool true)]) (by kernel_rfl) ?_
           exact hj13 true
          ·let E19 : Env := [(61, .bool (decide (x7_1 = 2))), (63, .bool (decide (x7_1 = 2))), (61, .bool false), (0, .str a0), (5, .int .i64 x7_1), (54, .int .i64 x7_1), (61, .bool (decide (x7_1 = 1)))]
           refine oR 5 (p' := g20p28) (eE := E19) (H' := (mkH [])) (by kernel_rfl) ?_
           refine oK [0, 5, 61] (eE := [(0, .str a0), (5, .int .i64 x7_1), (61, .bool (decide (x7_1 = 2)))]) (by kernel_rfl) ?_
           exact hj13 (decide (x7_1 = 2))
  ·refine oS 17 (b := decide (x0_1 = 46)) (by kernel_rfl) (fun hb => ?_) (fun hb => ?_)
   ·let E20 : Env := ((21, .bool (decide ((a0.length : Int) = 1))) :: (20, .bool (decide ((a0.length : Int) = 1))) :: (19, .int .i64 (a0.length : Int)) :: (18, .str a0) :: (17, .bool true) :: (17, .bool (decide (x0_1 = 46))) :: (16, .bool (decide (x0_1 = 46))) :: (15, .int .u8 x0_1) :: (9, .bool false) :: E1)
    refine oR 4 (p' := (atN 7 (ctl1 g20p5))) (eE := E20) (H' := (mkH [])) (by kernel_rfl) ?_
    refine oS 21 (b := decide ((a0.length : Int) = 1)) (by kernel_rfl) (fun hb => ?_) (fun hb => ?_)
    ·let E21 : Env := ((14, .bool true) :: (31, .bool true) :: (30, .bool true) :: (29, .tuple []) :: (28, .tuple []) :: (27, .tuple []) :: (26, .bool true) :: (25, .bool true) :: (24, .tuple []) :: (23, .tuple []) :: (22, .tuple []) :: (21, .bool true) :: E20)
     refine oR 12 (p' := g20p7) (eE := E21) (H' := (mkH [])) (by kernel_rfl) ?_
     refine oK [0, 4, 14] (eE := [(0, .str a0), (4, .int .u8 x0_1), (14, .bool true)]) (by kernel_rfl) ?_
     exact hj12 true
    ·refine oR 1 (p' := (atN 8 (ctl1 g20p5))) (eE := ((22, .str a0) :: (21, .bool false) :: E20)) (H' := (mkH [])) (by kernel_rfl) ?_
     refine oH (fun (x2_8 : Int) => (.int .u8 x2_8, (mkH []))) (atN 9 (ctl1 g20p5)) (fun x2_8 => ((23, .int .u8 x2_8) :: (22, .str a0) :: (21, .bool false) :: E20)) (idxH (by kernel_rfl)) (fun _ => by kernel_rfl) (fun x2_8 hx2_8 => ?_)
     refine oC (fun (x2_9 : Bool) => .bool x2_9) (atN 10 (ctl1 g20p5)) (fun x2_9 => ((24, .bool x2_9) :: (23, .int .u8 x2_8) :: (22, .str a0) :: (21, .bool false) :: E20)) (fi := 30) (args := [.int .u8 x2_8]) (by kernel_rfl) (by kernel_rfl) (fun _ => by kernel_rfl) (fun r h => g30_ok k x2_8 r h) (fun _ => by kernel_rfl) (fun x2_9 hx2_9 => ?_)
     let E22 : Env := ((26, .bool x2_9) :: (25, .bool x2_9) :: (24, .bool x2_9) :: (23, .int .u8 x2_8) :: (22, .str a0) :: (21, .bool false) :: E20)
     refine oR 2 (p' := (atN 12 (ctl1 g20p5))) (eE := E22) (H' := (mkH [])) (by kernel_rfl) ?_
     refine oS 26 (b := x2_9) (by kernel_rfl) (fun hb => ?_) (fun hb => ?_)
     ·let E23 : Env := ((14, .bool true) :: (31, .bool true) :: (30, .bool true) :: (29, .tuple []) :: (28, .tuple []) :: (27, .tuple []) :: (26, .bool true) :: E22)
      refine oR 7 (p' := g20p7) (eE := E23) (H' := (mkH [])) (by kernel_rfl) ?_
      refine oK [0, 4, 14] (eE := [(0, .str a0), (4, .int .u8 x0_1), (14, .bool true)]) (by kernel_rfl) ?_
      exact hj12 true
     ·refine oR 1 (p' := (atN 13 (ctl1 g20p5))) (eE := ((27, .str a0) :: (26, .bool false) :: E22)) (H' := (mkH [])) (by kernel_rfl) ?_
      refine oH (fun (x2_13 : Int) => (.int .u8 x2_13, (mkH []))) (atN 14 (ctl1 g20p5)) (fun x2_13 => ((28, .int .u8 x2_13) :: (27, .str a0) :: (26, .bool false) :: E22)) (idxH (by kernel_rfl)) (fun _ => by kernel_rfl) (fun x2_13 hx2_13 => ?_)
      let E24 : Env := ((14, .bool (decide (x2_13 = 37))) :: (31, .bool (decide (x2_13 = 37))) :: (30, .bool (decide (x2_13 = 37))) :: (29, .bool (decide (x2_13 = 37))) :: (28, .int .u8 x2_13) :: (27, .str a0) :: (26, .bool false) :: E22)
      refine oR 5 (p' := g20p7) (eE := E24) (H' := (mkH [])) (by kernel_rfl) ?_
      refine oK [0, 4, 14] (eE := [(0, .str a0), (4, .int .u8 x0_1), (14, .bool (decide (x2_13 = 37)))]) (by kernel_rfl) ?_
      exact hj12 (decide (x2_13 = 37))
   ·let E25 : Env := ((14, .bool false) :: (31, .bool false) :: (30, .tuple []) :: (29, .tuple []) :: (28, .tuple []) :: (27, .tuple []) :: (26, .tuple []) :: (25, .tuple []) :: (24, .tuple []) :: (23, .tuple []) :: (22, .tuple []) :: (21, .tuple []) :: (20, .tuple []) :: (19, .tuple []) :: (18, .tuple []) :: (17, .bool false) :: (17, .bool (decide (x0_1 = 46))) :: (16, .bool (decide (x0_1 = 46))) :: (15, .int .u8 x0_1) :: (9, .bool false) :: E1)
    refine oR 16 (p' := g20p7) (eE := E25) (H' := (mkH [])) (by kernel_rfl) ?_
    refine oK [0, 4, 14] (eE := [(0, .str a0), (4, .int .u8 x0_1), (14, .bool false)]) (by kernel_rfl) ?_
    exact hj12 false
end
end Go.Proofs.Ytokcjgjgojlhbaa.Am
set_option maxRecDepth 100000
set_option linter.unusedVariables false
set_option linter.unusedSimpArgs false
namespace Go.Proofs.Ytokcjgjgojlhbaa.Am
open Go
theorem blank_l (k : Nat) {s : List Nat} (hs : By s) (hl : Sz s) : ∀ (f i : Nat), s.length < i + f → i ≤ s.length → g16_l1 k s f (i : Int) = some ((i + skipN (s.drop i) : Nat) : Int)
 | 0, i, h, h2 => by omega
 | f + 1, i, h, h2 => by
  have hl' := hl
  unfold Sz at hl
  rw [g16_l1_s]
  rcases Nat.lt_or_ge i s.length with hi | hi
  ·obtain ⟨c, r, hc, hr, hm, hrl⟩ := dcons hi
   have ih := blank_l k hs hl' f (i + 1) (by omega) (by omega)
   rw [hr] at ih
   have nc := nthX (x := (i : Int)) rfl hc
   have bc := blank_at k (hs c hm)
   refine (jS (v := (blkN c, (i : Int))) (fun j => ?_)).trans ?_
   ·refine iT (by first | (simp (disch := omega) only [↓reduceIte, ↓jn, gsL]; done) | rfl) ?_
    refine bS (by (try simp (disch := omega) only [fwI]); exact nc) ?_
    refine bS (by (try simp (disch := omega) only [fwI]); exact bc) ?_
    rfl
   ·rw [hc]
    simp only [skipN]
    cases blkN c with
    | true =>
     refine iT rfl ?_
     rw [fw_s (by omega)]
     refine ih.trans (sn ?_)
     simp only [if_true]; omega
    | false =>
     refine iF rfl ?_
     simp only [minI, Bool.false_eq_true, if_false]
     rw [if_neg (by omega)]; rfl
  ·refine (jS (v := (false, (i : Int))) (fun j => ?_)).trans ?_
   ·simp (disch := omega) only [↓reduceIte, ↓jn, gsL]
   ·refine iF rfl ?_
    rw [dnil hi]
    simp only [minI, skipN]
    rw [if_neg (by omega)]; rfl
theorem sblank_at {k : Nat} {s : List Nat} (hk : s.length < k) (hs : By s) (hl : Sz s) {a : Nat} (ha : a ≤ s.length) : g16 k s (a : Int) = some ((a + skipN (s.drop a) : Nat) : Int) := by
 unfold g16
 have e : maxI (a : Int) 0 = (a : Int) := by unfold maxI; rw [if_neg (by omega)]
 rw [e]
 exact blank_l k hs hl k a (by omega) ha
theorem inner_l (k : Nat) {s : List Nat} (hs : By s) (hl : Sz s) : ∀ (f i : Nat), s.length < i + f → i ≤ s.length → g39_l1 k s f (i : Int) = some ((i + innN (s.drop i) : Nat) : Int)
 | 0, i, h, h2 => by omega
 | f + 1, i, h, h2 => by
  have hl' := hl
  unfold Sz at hl
  rw [g39_l1_s]
  rcases Nat.lt_or_ge i s.length with hi | hi
  ·obtain ⟨c, r, hc, hr, hm, hrl⟩ := dcons hi
   have ih := inner_l k hs hl' f (i + 1) (by omega) (by omega)
   rw [hr] at ih
   have nc := nthX (x := (i : Int)) rfl hc
   have bc := inner_at58 k (hs c hm)
   refine (jS (v := (inrN c, (i : Int))) (fun j => ?_)).trans ?_
   ·refine iT (by first | (simp (disch := omega) only [↓reduceIte, ↓jn, gsL]; done) | rfl) ?_
    refine bS (by (try simp (disch := omega) only [fwI]); exact nc) ?_
    refine bS (by (try simp (disch := omega) only [fwI]); exact bc) ?_
    rfl
   ·rw [hc]
    simp only [innN]
    cases inrN c with
    | true =>
     refine iT rfl ?_
     rw [fw_s (by omega)]
     refine ih.trans (sn ?_)
     simp only [if_true]; omega
    | false =>
     refine iF rfl ?_
     simp only [Bool.false_eq_true, if_false]; rfl
  ·refine (jS (v := (false, (i : Int))) (fun j => ?_)).trans ?_
   ·simp (disch := omega) only [↓reduceIte, ↓jn, gsL]
   ·refine iF rfl ?_
    rw [dnil hi]; rfl
theorem sinner_at {k : Nat} {s : List Nat} (hk : s.length < k) (hs : By s) (hl : Sz s) : g39 k s = some ((innN s : Nat) : Int) := by
 have := inner_l k hs hl k 0 (by omega) (by omega)
 rw [Nat.zero_add] at this
 exact this
theorem shown_at {k : Nat} (hk : 6 ≤ k) {s : List Nat} (hs : By s) (hl : Sz s) (a : Nat) : g51 k s (a : Int) = some ((shwN (s.drop a) : Nat) : Int) := by
 unfold g51
 refine bS (by (try simp (disch := omega) only [fwI]); exact next_at hk hs hl a) ?_
 unfold shwN
 by_cases h : (dec (s.drop a)).1 < 32 ∨ (dec (s.drop a)).1 = 127
 ·rw [if_pos h]
  refine (jS (v := true) (fun j => ?_)).trans rfl
  by_cases h1 : (dec (s.drop a)).1 < 32
  ·simp (disch := omega) only [↓reduceIte, ↓jn, gsL, h1]
  ·simp (disch := omega) only [↓reduceIte, ↓jn, gsL, h1]
 ·rw [if_neg h]
  refine (jS (v := false) (fun j => ?_)).trans ?_
  ·simp (disch := omega) only [↓reduceIte, ↓jn, gsL]
  ·refine iF (by first | (simp (disch := omega) only [↓reduceIte, ↓jn, gsL]; done) | rfl) ?_
   congr 1
   cases hd : s.drop a with
   | nil => rfl
   | cons c r =>
    obtain ⟨n, n1, -⟩ := dec_size (s := c :: r) (by simp)
    rw [n1]; rfl
theorem quoted_l {k : Nat} (hk : 6 ≤ k) {s : List Nat} (hs : By s) (hl : Sz s) {q : Nat} {t : List Nat} (hq : s = q :: t) (hq2 : q = 39 ∨ q = 34) : ∀ (d f i : Nat), s.length ≤ i + d → d < f → i ≤ s.length → g34_l4 k s f (i : Int) = some ((bmp i (quoN q d (s.drop i)) : Nat) : Int) := by
 have n0 : nthS s 0 = some (q : Int) := nthX (i := 0) rfl (by rw [List.drop_zero]; exact hq)
 have hl' := hl
 unfold Sz at hl
 intro d
 induction d with
 | zero =>
  intro f i h1 hf h2
  obtain ⟨f, rfl⟩ : ∃ f', f = f' + 1 := ⟨f - 1, by omega⟩
  have sh := shown_at hk hs hl' i
  rw [dnil (by omega : s.length ≤ i)] at sh ⊢
  rw [g34_l4_s]
  refine bS (by (try simp (disch := omega) only [fwI]); exact sh) ?_
  rfl
 | succ d ih =>
  intro f i h1 hf h2
  obtain ⟨f, rfl⟩ : ∃ f', f = f' + 1 := ⟨f - 1, by omega⟩
  have sh := shown_at hk hs hl' i
  rw [g34_l4_s]
  rcases Nat.lt_or_ge i s.length with hi | hi
  ·obtain ⟨c, r, hc, hr, hm, hrl⟩ := dcons hi
   have nc := nthX (x := (i : Int)) rfl hc
   refine bS (by (try simp (disch := omega) only [fwI]); exact sh) ?_
   rw [hc]
   simp only [quoN]
   by_cases hcq : c = q
   ·subst hcq
    have s1 : shwN (c :: r) = 1 := by
     unfold shwN
     rcases hq2 with rfl | rfl
     ·rw [dec_ascii r (by decide)]; rfl
     ·rw [dec_ascii r (by decide)]; rfl
    rw [s1, if_pos rfl]
    refine iF rfl ?_
    refine bS (by (try simp (disch := omega) only [fwI]); exact nc) ?_
    refine bS (by (try simp (disch := omega) only [fwI]); exact n0) ?_
    refine iT (dT rfl) ?_
    rw [fw_s (by omega)]
    unfold bmp
    rfl
   ·rw [if_neg hcq]
    by_cases h92 : c = 92
    ·subst h92
     have s1 : shwN (92 :: r) = 1 := by unfold shwN; rw [dec_ascii r (by decide)]; rfl
     rw [s1, if_pos rfl]
     refine iF rfl ?_
     refine bS (by (try simp (disch := omega) only [fwI]); exact nc) ?_
     refine bS (by (try simp (disch := omega) only [fwI]); exact n0) ?_
     refine iF (dF (by omega)) ?_
     refine bS (by (try simp (disch := omega) only [fwI]); exact nc) ?_
     have sh2 := shown_at hk hs hl' (i + 1)
     rw [hr] at sh2
     have wl := shwN_le r
     by_cases hz : shwN r = 0
     ·rw [if_pos hz]
      refine jC fun j => ?_
      refine iT rfl ?_
      rw [fw_s (by omega)]
      refine bS (by (try simp (disch := omega) only [fwI]); exact sh2) ?_
      refine iT (dT (by omega)) ?_
      unfold bmp; rfl
     ·rw [if_neg hz]
      refine (jS (v := (((i + 1 : Nat) : Int), (shwN r : Int))) (fun j => ?_)).trans ?_
      ·refine iT rfl ?_
       rw [fw_s (by omega)]
       refine bS (by (try simp (disch := omega) only [fwI]); exact sh2) ?_
       refine iF (dF (by omega)) ?_
       rfl
      ·show g34_l4 k s f (fW .i64 (((i + 1 : Nat) : Int) + (shwN r : Int))) = _
       rw [fw_a (by omega) (by omega)]
       refine (ih f (i + 1 + shwN r) (by omega) (by omega) (by omega)).trans (sn ?_)
       rw [← List.drop_drop, hr]
       unfold bmp
       repeat' split
       all_goals omega
    ·rw [if_neg h92]
     have wl := shwN_le (c :: r)
     simp only [List.length_cons] at wl
     by_cases hz : shwN (c :: r) = 0
     ·rw [if_pos hz]
      refine iT (dT (by omega)) ?_
      unfold bmp; rfl
     ·rw [if_neg hz]
      refine iF (dF (by omega)) ?_
      refine bS (by (try simp (disch := omega) only [fwI]); exact nc) ?_
      refine bS (by (try simp (disch := omega) only [fwI]); exact n0) ?_
      refine iF (dF (by omega)) ?_
      refine bS (by (try simp (disch := omega) only [fwI]); exact nc) ?_
      refine (jS (v := ((i : Int), (shwN (c :: r) : Int))) (fun j => ?_)).trans ?_
      ·refine iF (dF (by omega)) ?_
       rfl
      ·show g34_l4 k s f (fW .i64 ((i : Int) + (shwN (c :: r) : Int))) = _
       rw [fw_a (by omega) (by omega)]
       refine (ih f (i + shwN (c :: r)) (by omega) (by omega) (by omega)).trans (sn ?_)
       rw [← List.drop_drop, hc]
       unfold bmp
       repeat' split
       all_goals omega
  ·rw [dnil hi] at sh ⊢
   refine bS (by (try simp (disch := omega) only [fwI]); exact sh) ?_
   rfl
theorem quoted_at {k : Nat} {s : List Nat} (hk : s.length + 6 ≤ k) (hs : By s) (hl : Sz s) {q : Nat} {t : List Nat} (hq : s = q :: t) (hq2 : q = 39 ∨ q = 34) : g34 k s = some ((qtdN s : Nat) : Int) := by
 have := quoted_l (k := k) (by omega) hs hl hq hq2 t.length k 1 (by rw [hq, List.length_cons]; omega) (by rw [hq, List.length_cons] at hk; omega) (by rw [hq, List.length_cons]; omega)
 refine this.trans (sn ?_)
 subst hq
 rfl
theorem char_at {k : Nat} (hk : 10 ≤ k) {s : List Nat} (hs : By s) (hl : Sz s) {a : Nat} {t : List Nat} (hq : s = a :: t) : g35 k s = some ((chrN s : Nat) : Int) := by
 have hl' := hl
 unfold Sz at hl
 unfold g35
 cases t with
 | nil =>
  subst hq
  refine (jS (v := false) (fun j => rfl)).trans ?_
  refine iF rfl ?_
  have sh := shown_at (k := k) (by omega) hs hl' 1
  refine bS (by (try simp (disch := omega) only [fwI]); exact sh) ?_
  rfl
 | cons c r =>
  have d1 : s.drop 1 = c :: r := by rw [hq]; rfl
  have n1 : nthS s 1 = some (c : Int) := nthX (i := 1) rfl d1
  have len : s.length = r.length + 2 := by rw [hq]; rfl
  have es : chrN s = if c = 92 then (if 0 < (escN (c :: r)).2 then (escN (c :: r)).2.toNat + 1 else 0) else if shwN (c :: r) ≠ 0 ∧ c ≠ 32 then shwN (c :: r) + 1 else 0 := by rw [hq]; rfl
  rw [es]
  by_cases h92 : c = 92
  ·rw [if_pos h92]
   refine (jS (v := true) (fun j => ?_)).trans ?_
   ·refine iT (by first | (simp (disch := omega) only [↓reduceIte, ↓jn, gsL]; done) | rfl) ?_
    refine bS (by (try simp (disch := omega) only [fwI]); exact n1) ?_
    rw [dT (by omega)]
   ·refine iT rfl ?_
    have ea := escape_at hk hs hl' 1
    rw [d1] at ea
    have ea' : g52 k s 1 = some (escN (c :: r)) := ea
    refine bS (by (try simp (disch := omega) only [fwI]); exact ea') ?_
    rcases escN_cases (c :: r) with h | ⟨v, n, h, h2, h3⟩
    ·rw [h]; rfl
    ·rw [h]
     simp only [List.length_cons] at h3
     have : (0 : Int) < ((n : Nat) : Int) := by omega
     simp only []
     rw [if_pos this]
     refine iT (dT this) ?_
     rw [fw_s (by omega), Int.toNat_natCast]
  ·rw [if_neg h92]
   refine (jS (v := false) (fun j => ?_)).trans ?_
   ·refine iT (by first | (simp (disch := omega) only [↓reduceIte, ↓jn, gsL]; done) | rfl) ?_
    refine bS (by (try simp (disch := omega) only [fwI]); exact n1) ?_
    rw [dF (by omega)]
   ·refine iF rfl ?_
    have sh := shown_at (k := k) (by omega) hs hl' 1
    rw [d1] at sh
    have sh' : g51 k s 1 = some ((shwN (c :: r) : Nat) : Int) := sh
    have wl := shwN_le (c :: r)
    refine bS (by (try simp (disch := omega) only [fwI]); exact sh') ?_
    by_cases hz : shwN (c :: r) = 0
    ·refine (jS (v := false) (fun j => ?_)).trans ?_
     ·refine iF (by first | (simp (disch := omega) only [↓reduceIte, ↓jn, gsL]; done) | rfl) ?_
      rfl
     ·rw [if_neg (show ¬ (shwN (c :: r) ≠ 0 ∧ c ≠ 32) from fun h => h.1 hz)]; rfl
    ·refine (jS (v := !decide (c = 32)) (fun j => ?_)).trans ?_
     ·refine iT (by first | (simp (disch := omega) only [↓reduceIte, ↓jn, gsL]; done) | rfl) ?_
      refine bS (by (try simp (disch := omega) only [fwI]); exact n1) ?_
      congr 2
      rw [Bool.eq_iff_iff]; simp; omega
     ·by_cases h32 : c = 32
      ·rw [decide_eq_true h32, if_neg (show ¬ (shwN (c :: r) ≠ 0 ∧ c ≠ 32) from fun h => h.2 h32)]; rfl
      ·rw [decide_eq_false h32, if_pos (show shwN (c :: r) ≠ 0 ∧ c ≠ 32 from ⟨hz, h32⟩)]
       refine iT rfl ?_
       rw [fw_s (by omega)]
theorem nth_hd {s : List Nat} {i : Nat} (h : i < s.length) : ∃ c r, s.drop i = c :: r ∧ nthS s (i : Int) = some (c : Int) ∧ c ∈ s := by
 obtain ⟨c, r, hc, -, hm, -⟩ := dcons h
 exact ⟨c, r, hc, nthX rfl hc, hm⟩
theorem number_at {k : Nat} {s : List Nat} (hk : s.length < k) (hk3 : 4 ≤ k) (hs : By s) (hl : Sz s) : g38 k s = some (((numN s).1 : Int), ((numN s).2 : Int)) := by
 have hl' := hl
 unfold Sz at hl
 have fin : ∀ (n kind : Nat), n ≤ s.length → jn (fun (z7 : Bool) => if z7 then (some ((0 : Int), (0 : Int))) else (some ((n : Int), (kind : Int)))) (fun j7 => if (decide ((n : Int) < (s.length : Int))) then ((nthS s (n : Int)).bind fun x4_7 => (g58 k x4_7).bind fun x4_8 => j7 x4_8) else (j7 false)) = some (((endN s n kind).1 : Int), ((endN s n kind).2 : Int)) := by
  intro n kind hn
  unfold endN
  rcases Nat.lt_or_ge n s.length with h | h
  ·obtain ⟨c, r, hc, nc, hm⟩ := nth_hd h
   rw [hc]
   refine (jS (v := inrN c) (fun j => ?_)).trans ?_
   ·refine iT (by first | (simp (disch := omega) only [↓reduceIte, ↓jn, gsL]; done) | rfl) ?_
    refine bS (by (try simp (disch := omega) only [fwI]); exact nc) ?_
    refine bS (by (try simp (disch := omega) only [fwI]); exact inner_at58 k (hs c hm)) ?_
    rfl
   ·simp only []
    cases inrN c <;> rfl
  ·rw [dnil h]
   refine (jS (v := false) (fun j => ?_)).trans ?_
   ·simp (disch := omega) only [↓reduceIte, ↓jn, gsL]
   ·rfl
 unfold g38
 refine bS (by (try simp (disch := omega) only [fwI]); exact part_at hk hs hl') ?_
 have pl := partN_le s
 have wl := wholeN_le s
 unfold numN
 by_cases h0 : partN s = 0
 ·rw [if_pos h0]
  by_cases hh : hashN s (wholeN s) = true
  ·rw [if_pos hh]
   refine jC fun j => ?_
   refine iT (by first | (simp (disch := omega) only [↓reduceIte, ↓jn, gsL]; done) | rfl) ?_
   refine bS (by (try simp (disch := omega) only [fwI]); exact whole_at hk hk3 hs hl') ?_
   refine bS (by (try simp (disch := omega) only [fwI]); exact front_at hk hk3 hs hl') ?_
   refine (jS (v := true) (fun j => ?_)).trans rfl
   unfold hashN at hh
   split at hh
   ·rename_i c r hc
    have nc := nthX (x := (wholeN s : Int)) rfl hc
    have dl := drop_len hc
    rw [Bool.and_eq_true, decide_eq_true_eq, Bool.or_eq_true, decide_eq_true_eq, decide_eq_true_eq] at hh
    obtain ⟨rfl, h1⟩ := hh
    refine iT (by first | (simp (disch := omega) only [↓reduceIte, ↓jn, gsL]; done) | rfl) ?_
    refine bS (by (try simp (disch := omega) only [fwI]); exact nc) ?_
    refine iT rfl ?_
    by_cases h2 : (frontN s).1 = 0
    ·refine iT (dT (by omega)) rfl
    ·refine iF (dF (by omega)) ?_
     rw [dT (by omega)]
   ·cases hh
  ·rw [if_neg hh]
   refine (jS (v := ((3 : Int), (wholeN s : Int))) (fun j => ?_)).trans ?_
   ·refine iT (by first | (simp (disch := omega) only [↓reduceIte, ↓jn, gsL]; done) | rfl) ?_
    refine bS (by (try simp (disch := omega) only [fwI]); exact whole_at hk hk3 hs hl') ?_
    refine bS (by (try simp (disch := omega) only [fwI]); exact front_at hk hk3 hs hl') ?_
    refine (jS (v := false) (fun j => ?_)).trans rfl
    rcases Nat.lt_or_ge (wholeN s) s.length with h | h
    ·obtain ⟨c, r, hc, nc, hm⟩ := nth_hd h
     unfold hashN at hh
     rw [hc] at hh
     simp only [Bool.and_eq_true, decide_eq_true_eq, Bool.or_eq_true] at hh
     refine iT (by first | (simp (disch := omega) only [↓reduceIte, ↓jn, gsL]; done) | rfl) ?_
     refine bS (by (try simp (disch := omega) only [fwI]); exact nc) ?_
     by_cases h35 : c = 35
     ·refine iT (dT (by omega)) ?_
      have h1 : ¬ (frontN s).1 = 0 := fun e => hh ⟨h35, .inl e⟩
      have h2 : ¬ wholeN s < (frontN s).1 := fun e => hh ⟨h35, .inr e⟩
      refine iF (dF (by omega)) ?_
      rw [dF (by omega)]
     ·refine iF (dF (by omega)) rfl
    ·simp (disch := omega) only [↓reduceIte, ↓jn, gsL]
   ·exact fin (wholeN s) 3 wl
 ·rw [if_neg h0]
  refine (jS (v := ((4 : Int), (partN s : Int))) (fun j => ?_)).trans ?_
  ·refine iF (by first | (simp (disch := omega) only [↓reduceIte, ↓jn, gsL]; done) | rfl) ?_
   rfl
  ·exact fin (partN s) 4 pl
theorem note_trm {k : Nat} {s : List Nat} (hs : By s) (hl : Sz s) {q : Nat} {t : List Nat} (hq : s = q :: t) (hq2 : blkN q = false) : ∀ (n f : Nat), n < f → 1 ≤ n → n ≤ s.length → g33_l4 k s f (n : Int) = some ((trmN s n : Nat) : Int)
 | 0, f, hf, h1, h2 => by omega
 | n + 1, f, hf, h1, h2 => by
  have hl' := hl
  unfold Sz at hl
  obtain ⟨f, rfl⟩ : ∃ f', f = f' + 1 := ⟨f - 1, by omega⟩
  rw [g33_l4_s]
  obtain ⟨c, r, hc, hr, hm, hrl⟩ := dcons (s := s) (i := n) (by omega)
  have nc : nthS s (((n + 1 : Nat) : Int) - 1) = some (c : Int) := nthX (i := n) (by omega) hc
  refine bS (by (try simp (disch := omega) only [fwI]); exact nc) ?_
  refine bS (by (try simp (disch := omega) only [fwI]); exact blank_at k (hs c hm)) ?_
  simp only [trmN, hc]
  cases hb : blkN c with
  | true =>
   refine iT rfl ?_
   have e : fW .i64 (((n + 1 : Nat) : Int) - 1) = (n : Int) := by rw [fwI (by omega) (by omega)]; omega
   rw [e]
   have hn : 1 ≤ n := by
    rcases Nat.lt_or_ge 0 n with h | h
    ·exact h
    ·exfalso
     obtain rfl : n = 0 := by omega
     rw [List.drop_zero, hq] at hc
     rw [(List.cons.inj hc).1, hb] at hq2
     cases hq2
   clear e
   refine (note_trm hs hl' hq hq2 n f (by omega) hn (by omega)).trans ?_
   rfl
  | false => rfl
theorem note_l (k : Nat) {s : List Nat} (hs : By s) (hl : Sz s) {R : Int → Option Int} (hR : ∀ x, g33_l4 k s k x = R x) : ∀ (f i : Nat), s.length < i + f → i ≤ s.length → g33_l2 k s f (i : Int) = R ((i + lineN (s.drop i) : Nat) : Int)
 | 0, i, h, h2 => by omega
 | f + 1, i, h, h2 => by
  have hl' := hl
  unfold Sz at hl
  rw [g33_l2_s]
  rcases Nat.lt_or_ge i s.length with hi | hi
  ·obtain ⟨c, r, hc, hr, hm, hrl⟩ := dcons hi
   have ih := note_l k hs hl' hR f (i + 1) (by omega) (by omega)
   rw [hr] at ih
   have nc := nthX (x := (i : Int)) rfl hc
   refine (jS (v := (!decide (c = 10), (i : Int))) (fun j => ?_)).trans ?_
   ·refine iT (by first | (simp (disch := omega) only [↓reduceIte, ↓jn, gsL]; done) | rfl) ?_
    refine bS (by (try simp (disch := omega) only [fwI]); exact nc) ?_
    congr 2
    rw [Bool.eq_iff_iff]; simp; omega
   ·rw [hc]
    simp only [lineN]
    by_cases h10 : c = 10
    ·rw [decide_eq_true h10, if_pos h10]
     refine iF rfl ?_
     exact hR _
    ·rw [decide_eq_false h10, if_neg h10]
     refine iT rfl ?_
     rw [fw_s (by omega)]
     refine ih.trans ?_
     congr 1; omega
  ·refine (jS (v := (false, (i : Int))) (fun j => ?_)).trans ?_
   ·simp (disch := omega) only [↓reduceIte, ↓jn, gsL]
   ·refine iF rfl ?_
    rw [dnil hi]
    exact hR _
theorem snote_at {k : Nat} {s : List Nat} (hk : s.length < k) (hs : By s) (hl : Sz s) {t : List Nat} (hq : s = 37 :: t) : g33 k s = some ((cmtN s : Nat) : Int) := by
 have := note_l k hs hl (R := fun x => g33_l4 k s k x) (fun _ => rfl) k 0 (by omega) (by omega)
 refine this.trans ?_
 rw [Nat.zero_add, List.drop_zero]
 have h1 := lineN_le s
 refine note_trm hs hl hq (by decide) (lineN s) k (by omega) ?_ h1
 rw [hq]; simp only [lineN]; simp
theorem macro_at {k : Nat} {s : List Nat} (hk : s.length < k) (hs : By s) (hl : Sz s) {a : Nat} {t : List Nat} (hq : s = a :: t) : g36 k s = some ((macN s : Nat) : Int) := by
 have hl' := hl
 unfold Sz at hl
 unfold g36
 have fin : ∀ n : Nat, n ≤ s.length → 1 ≤ n → ((g53 k s (n : Int)).bind fun x1_2 => (g37 k x1_2).bind fun x1_3 => jn (fun (z5 : Bool) => if z5 then (some (0 : Int)) else ((subL s (some (n : Int)) none).bind fun x2_3 => (g39 k x2_3).bind fun x2_4 => some (fW .i64 ((n : Int) + x2_4)))) (fun j5 => if (!decide (x1_3 = 1)) then (j5 (!decide (x1_3 = 2))) else (j5 false))) = some ((mac1 n (s.drop n) : Nat) : Int) := by
  intro n hn h1
  rcases Nat.lt_or_ge n s.length with h | h
  ·obtain ⟨c, r, hc, nc, hm⟩ := nth_hd h
   have ea : g53 k s (n : Int) = some (c : Int) := by
    unfold g53
    refine iF (by first | (simp (disch := omega) only [↓reduceIte, ↓jn, gsL]; done) | rfl) ?_
    refine bS (by (try simp (disch := omega) only [fwI]); exact nc) ?_
    rfl
   refine bS (by (try simp (disch := omega) only [fwI]); exact ea) ?_
   refine bS (by (try simp (disch := omega) only [fwI]); exact begins_at37 k (hs c hm)) ?_
   rw [hc]
   simp only [mac1]
   have il := innN_le (c :: r)
   have dl := drop_len hc
   by_cases hb : begN c = 1 ∨ begN c = 2
   ·rw [if_pos hb]
    refine (jS (v := false) (fun j => ?_)).trans ?_
    ·rcases hb with hb | hb
     ·rw [hb]; rfl
     ·rw [hb]; rfl
    ·refine iF rfl ?_
     refine bS (by (try simp (disch := omega) only [fwI]); exact subFrom (s := s) (x := (n : Int)) (i := n) rfl hn) ?_
     have si := sinner_at (k := k) (s := s.drop n) (by rw [List.length_drop]; omega) (hs.drop n) (by unfold Sz; rw [List.length_drop]; omega)
     refine bS (by (try simp (disch := omega) only [fwI]); exact si) ?_
     rw [hc]
     simp only [List.length_cons] at il
     rw [fw_a (by omega) (by omega)]
   ·rw [if_neg hb]
    refine (jS (v := true) (fun j => ?_)).trans rfl
    refine iT (by first | (simp (disch := omega) only [↓reduceIte, ↓jn, gsL]; done) | rfl) ?_
    rw [dF (by omega)]; rfl
  ·obtain rfl : n = s.length := by omega
   have ea : g53 k s (s.length : Int) = some ((0 : Nat) : Int) := by
    unfold g53
    refine iT (by first | (simp (disch := omega) only [↓reduceIte, ↓jn, gsL]; done) | rfl) ?_
    rfl
   refine bS (by (try simp (disch := omega) only [fwI]); exact ea) ?_
   refine bS (by (try simp (disch := omega) only [fwI]); exact begins_at37 k (c := 0) (by decide)) ?_
   rw [dnil (Nat.le_refl _)]
   rfl
 cases t with
 | nil =>
  subst hq
  refine (jS (v := false) (fun j => rfl)).trans ?_
  refine (jS (v := (1 : Int)) (fun j => rfl)).trans ?_
  exact fin 1 (Nat.le_refl _) (Nat.le_refl _)
 | cons c r =>
  have d1 : s.drop 1 = c :: r := by rw [hq]; rfl
  have d2 : s.drop 2 = r := by rw [hq]; rfl
  have n1 : nthS s 1 = some (c : Int) := nthX (i := 1) rfl d1
  have len : s.length = r.length + 2 := by rw [hq]; rfl
  have es : macN s = if c = 63 then mac1 2 r else mac1 1 (c :: r) := by rw [hq]; rfl
  rw [es]
  by_cases h63 : c = 63
  ·rw [if_pos h63]
   refine (jS (v := true) (fun j => ?_)).trans ?_
   ·refine iT (by first | (simp (disch := omega) only [↓reduceIte, ↓jn, gsL]; done) | rfl) ?_
    refine bS (by (try simp (disch := omega) only [fwI]); exact n1) ?_
    rw [dT (by omega)]
   ·refine (jS (v := ((2 : Nat) : Int)) (fun j => rfl)).trans ?_
    have := fin 2 (by omega) (by omega)
    rw [d2] at this
    exact this
  ·rw [if_neg h63]
   refine (jS (v := false) (fun j => ?_)).trans ?_
   ·refine iT (by first | (simp (disch := omega) only [↓reduceIte, ↓jn, gsL]; done) | rfl) ?_
    refine bS (by (try simp (disch := omega) only [fwI]); exact n1) ?_
    rw [dF (by omega)]
   ·refine (jS (v := ((1 : Nat) : Int)) (fun j => rfl)).trans ?_
    have := fin 1 (by omega) (by omega)
    rw [d1] at this
    exact this
end Go.Proofs.Ytokcjgjgojlhbaa.Am
set_option maxRecDepth 100000
set_option linter.unusedVariables false
namespace Go.Proofs.Ytokcjgjgojlhbaa.Am
noncomputable section
open Go
def X14 : Fx (S28 × Int) := ⟨Try.prog, cx, Try.f14, fun r => .tuple [.agg [.int .i64 r.1.f0, .str r.1.f1, .int .i64 r.1.f2], .int .i64 r.2], 0, fun _ => H0, cxTi, cxOrd⟩
def g14p0 : Pt := nav [0] (bodyAt Try.f14)
def g14p1 : Pt := nav [0, 0, 0, 0] g14p0
def g14p2 : Pt := nav [0, 0] g14p1
def g14p4 : Pt := nav [2, 0, 0] g14p2
def g14p6 : Pt := nav [0, 0, 0, 0] g14p4
def g14p7 : Pt := nav [0, 0] g14p6
def g14p9 : Pt := nav [2, 0, 0] g14p7
def g14 (k : Nat) (a0 : (List Nat)) (a1 : Int) : Option (S28 × Int) :=
 jn (fun (z2 : Bool) => if z2 then (some ((⟨(0 : Int), ([] : List Nat), (0 : Int)⟩ : S28), (4 : Int))) else ((subL a0 (some a1) none).bind fun x0_2 => (g20 k x0_2).bind fun x0_3 => if (decide (x0_3.1 = 0)) then (some ((⟨(0 : Int), ([] : List Nat), (0 : Int)⟩ : S28), (4 : Int))) else ((subL a0 (some a1) (some (fW .i64 (a1 + x0_3.1)))).bind fun x1_6 => some ((⟨x0_3.2, x1_6, a1⟩ : S28), (0 : Int))))) (fun j2 => if (decide (a1 < 0)) then (j2 true) else (j2 (decide ((a0.length : Int) ≤ a1))))
theorem g14_ok (k : Nat) (a0 : (List Nat)) (a1 : Int) (r : (S28 × Int)) (h : g14 k a0 a1 = some r) : PureOk Try.prog 14 [.str a0, .int .i64 a1] (.tuple [.agg [.int .i64 r.1.f0, .str r.1.f1, .int .i64 r.1.f2], .int .i64 r.2]) := by
 refine pure_of X14 (fun _ => rfl) Try.func14 (by decide +kernel) (by kernel_rfl) (t := g14 k a0 a1) ?_ h
 unfold g14
 refine oE (eE := [(0, .str a0), (1, .int .i64 a1)]) (by kernel_rfl) ?_
 let E1 : Env := [(10, .bool (decide (a1 < 0))), (9, .bool (decide (a1 < 0))), (8, .int .i64 a1), (5, .int .i64 0), (4, .ptr 0 3 0), (0, .str a0), (1, .int .i64 a1)]
 refine oR 11 (p' := (atN 3 (ctl1 g14p1))) (eE := E1) (H' := (mkH [⟨[.int .i64 0, .str [], .int .i64 0], 0, false⟩])) (by kernel_rfl) ?_
 refine oJ (f := fun (z2 : Bool) => if z2 then (some ((⟨(0 : Int), ([] : List Nat), (0 : Int)⟩ : S28), (4 : Int))) else ((subL a0 (some a1) none).bind fun x0_2 => (g20 k x0_2).bind fun x0_3 => if (decide (x0_3.1 = 0)) then (some ((⟨(0 : Int), ([] : List Nat), (0 : Int)⟩ : S28), (4 : Int))) else ((subL a0 (some a1) (some (fW .i64 (a1 + x0_3.1)))).bind fun x1_6 => some ((⟨x0_3.2, x1_6, a1⟩ : S28), (0 : Int))))) g14p2 (fun (z2 : Bool) => [(0, .str a0), (1, .int .i64 a1), (4, .ptr 0 3 0), (15, .bool z2)]) (fun (z2 : Bool) => (mkH [⟨[.int .i64 0, .str [], .int .i64 0], 0, false⟩])) (fun z2 => ?_) (fun j2 hj2 => ?_)
 ·refine oS 15 (b := z2) (by kernel_rfl) (fun hb => ?_) (fun hb => ?_)
  ·let E2 : Env := [(5, .int .i64 4), (16, .agg [.int .i64 0, .str [], .int .i64 0]), (15, .bool true), (0, .str a0), (1, .int .i64 a1), (4, .ptr 0 3 0), (15, .bool z2)]
   refine oR 8 (p' := .fin) (eE := E2) (H' := (mkH [⟨[.int .i64 0, .str [], .int .i64 0], 3, false⟩])) (by kernel_rfl) ?_
   exact oT (r := ((⟨(0 : Int), ([] : List Nat), (0 : Int)⟩ : S28), (4 : Int))) (xs := [.agg [.int .i64 0, .str [], .int .i64 0], .int .i64 4]) (v := .tuple [.agg [.int .i64 0, .str [], .int .i64 0], .int .i64 4]) (by kernel_rfl) (by kernel_rfl) (by kernel_rfl) (.pures (by kernel_rfl)) (by kernel_rfl)
  ·let E3 : Env := [(19, .int .i64 a1), (18, .str a0), (15, .bool false), (0, .str a0), (1, .int .i64 a1), (4, .ptr 0 3 0), (15, .bool z2)]
   refine oR 6 (p' := (atN 2 (ctl1 g14p4))) (eE := E3) (H' := (mkH [⟨[.int .i64 0, .str [], .int .i64 0], 0, false⟩])) (by kernel_rfl) ?_
   refine oH (fun (x0_2 : (List Nat)) => (.str x0_2, (mkH [⟨[.int .i64 0, .str [], .int .i64 0], 0, false⟩]))) (atN 3 (ctl1 g14p4)) (fun x0_2 => ((20, .str x0_2) :: E3)) (subH (some a1) none (by kernel_rfl)) (fun _ => by kernel_rfl) (fun x0_2 hx0_2 => ?_)
   refine oC (fun (x0_3 : (Int × Int)) => .tuple [.int .i64 x0_3.1, .int .i64 x0_3.2]) (atN 4 (ctl1 g14p4)) (fun x0_3 => ((21, .tuple [.int .i64 x0_3.1, .int .i64 x0_3.2]) :: (20, .str x0_2) :: E3)) (fi := 20) (args := [.str x0_2]) (by kernel_rfl) (by kernel_rfl) (fun _ => by kernel_rfl) (fun r h => g20_ok k x0_2 r h) (fun _ => by kernel_rfl) (fun x0_3 hx0_3 => ?_)
   let E4 : Env := ((7, .int .i64 x0_3.2) :: (6, .int .i64 x0_3.1) :: (23, .int .i64 x0_3.2) :: (22, .int .i64 x0_3.1) :: (17, .tuple [.int .i64 x0_3.1, .int .i64 x0_3.2]) :: (21, .tuple [.int .i64 x0_3.1, .int .i64 x0_3.2]) :: (20, .str x0_2) :: E3)
   refine oR 8 (p' := g14p6) (eE := E4) (H' := (mkH [⟨[.int .i64 0, .str [], .int .i64 0], 0, false⟩])) (by kernel_rfl) ?_
   refine oK [0, 1, 4, 6, 7] (eE := [(0, .str a0), (1, .int .i64 a1), (4, .ptr 0 3 0), (6, .int .i64 x0_3.1), (7, .int .i64 x0_3.2)]) (by kernel_rfl) ?_
   let E5 : Env := [(25, .bool (decide (x0_3.1 = 0))), (24, .int .i64 x0_3.1), (0, .str a0), (1, .int .i64 a1), (4, .ptr 0 3 0), (6, .int .i64 x0_3.1), (7, .int .i64 x0_3.2)]
   refine oR 4 (p' := g14p7) (eE := E5) (H' := (mkH [⟨[.int .i64 0, .str [], .int .i64 0], 0, false⟩])) (by kernel_rfl) ?_
   refine oS 25 (b := decide (x0_3.1 = 0)) (by kernel_rfl) (fun hb => ?_) (fun hb => ?_)
   ·refine oR 8 (p' := .fin) (eE := ((5, .int .i64 4) :: (26, .agg [.int .i64 0, .str [], .int .i64 0]) :: (25, .bool true) :: E5)) (H' := (mkH [⟨[.int .i64 0, .str [], .int .i64 0], 3, false⟩])) (by kernel_rfl) ?_
    exact oT (r := ((⟨(0 : Int), ([] : List Nat), (0 : Int)⟩ : S28), (4 : Int))) (xs := [.agg [.int .i64 0, .str [], .int .i64 0], .int .i64 4]) (v := .tuple [.agg [.int .i64 0, .str [], .int .i64 0], .int .i64 4]) (by kernel_rfl) (by kernel_rfl) (by kernel_rfl) (.pures (by kernel_rfl)) (by kernel_rfl)
   ·let E6 : Env := ((32, .int .i64 (fW .i64 (a1 + x0_3.1))) :: (31, .int .i64 x0_3.1) :: (30, .int .i64 a1) :: (29, .int .i64 a1) :: (28, .str a0) :: (27, .int .i64 x0_3.2) :: (25, .bool false) :: E5)
    refine oR 10 (p' := (atN 6 (ctl1 g14p9))) (eE := E6) (H' := (mkH [⟨[.int .i64 0, .str [], .int .i64 0], 0, false⟩])) (by kernel_rfl) ?_
    refine oH (fun (x1_6 : (List Nat)) => (.str x1_6, (mkH [⟨[.int .i64 0, .str [], .int .i64 0], 0, false⟩]))) (atN 7 (ctl1 g14p9)) (fun x1_6 => ((33, .str x1_6) :: E6)) (subH (some a1) (some (fW .i64 (a1 + x0_3.1))) (by kernel_rfl)) (fun _ => by kernel_rfl) (fun x1_6 hx1_6 => ?_)
    refine oR 6 (p' := .fin) (eE := ((5, .int .i64 0) :: (35, .agg [.int .i64 x0_3.2, .str x1_6, .int .i64 a1]) :: (34, .int .i64 a1) :: (33, .str x1_6) :: E6)) (H' := (mkH [⟨[.int .i64 x0_3.2, .str x1_6, .int .i64 a1], 3, false⟩])) (by kernel_rfl) ?_
    exact oT (r := ((⟨x0_3.2, x1_6, a1⟩ : S28), (0 : Int))) (xs := [.agg [.int .i64 x0_3.2, .str x1_6, .int .i64 a1], .int .i64 0]) (v := .tuple [.agg [.int .i64 x0_3.2, .str x1_6, .int .i64 a1], .int .i64 0]) (by kernel_rfl) (by kernel_rfl) (by kernel_rfl) (.pures (by kernel_rfl)) (by kernel_rfl)
 ·refine oS 10 (b := decide (a1 < 0)) (by kernel_rfl) (fun hb => ?_) (fun hb => ?_)
  ·let E7 : Env := ((15, .bool true) :: (14, .tuple []) :: (13, .tuple []) :: (12, .tuple []) :: (11, .tuple []) :: (10, .bool true) :: E1)
   refine oR 6 (p' := g14p2) (eE := E7) (H' := (mkH [⟨[.int .i64 0, .str [], .int .i64 0], 0, false⟩])) (by kernel_rfl) ?_
   refine oK [0, 1, 4, 15] (eE := [(0, .str a0), (1, .int .i64 a1), (4, .ptr 0 3 0), (15, .bool true)]) (by kernel_rfl) ?_
   exact hj2 true
  ·let E8 : Env := ((15, .bool (decide ((a0.length : Int) ≤ a1))) :: (14, .bool (decide ((a0.length : Int) ≤ a1))) :: (13, .int .i64 (a0.length : Int)) :: (12, .str a0) :: (11, .int .i64 a1) :: (10, .bool false) :: E1)
   refine oR 6 (p' := g14p2) (eE := E8) (H' := (mkH [⟨[.int .i64 0, .str [], .int .i64 0], 0, false⟩])) (by kernel_rfl) ?_
   refine oK [0, 1, 4, 15] (eE := [(0, .str a0), (1, .int .i64 a1), (4, .ptr 0 3 0), (15, .bool (decide ((a0.length : Int) ≤ a1)))]) (by kernel_rfl) ?_
   exact hj2 (decide ((a0.length : Int) ≤ a1))
end
end Go.Proofs.Ytokcjgjgojlhbaa.Am
set_option maxRecDepth 100000
set_option linter.unusedVariables false
namespace Go.Proofs.Ytokcjgjgojlhbaa.Am
noncomputable section
open Go
def X11 : Fx ((List S28) × Int) := ⟨Try.prog, cx, Try.f11, fun r => .tuple [.vec (r.1).length 3 ((r.1).flatMap e29), .int .i64 r.2], 0, fun _ => H0, cxTi, cxOrd⟩
def g11p0 : Pt := nav [0] (bodyAt Try.f11)
def g11p1 : Pt := nav [0, 0, 0, 0, 0, 0] g11p0
def g11p2 : Pt := nav [0, 0] g11p1
def g11p4 : Pt := nav [2, 0] g11p2
def g11p6 : Pt := nav [0, 0] g11p4
def g11p8 : Pt := nav [2, 0, 0] g11p6
def g11p9 : Pt := nav [0, 0, 0] g11p8
def g11p10 : Pt := nav [0, 0, 0, 0, 0, 0] g11p9
def g11p11 : Pt := nav [0, 0, 0] g11p10
def g11p12 : Pt := nav [0, 0] g11p11
def g11p14 : Pt := nav [2, 0, 0] g11p12
def g11p15 : Pt := nav [0, 0, 0, 0] g11p14
def g11p16 : Pt := nav [0, 0] g11p15
def g11p18 : Pt := nav [2, 0, 0] g11p16
def g11_l4 (k : Nat)  (a0 : (List Nat)) (n : Nat) : Int → (List S28) → Option ((List S28) × Int) :=
 Nat.rec (motive := fun _ => Int → (List S28) → Option ((List S28) × Int)) (fun _ _ => none) (fun _ ih => fun (y4_0 : Int) (y4_1 : (List S28)) => (g16 k a0 y4_0).bind fun x1_2 => if (decide (x1_2 = (a0.length : Int))) then (some (y4_1, (0 : Int))) else ((g14 k a0 x1_2).bind fun x2_2 => if (!decide (x2_2.2 = 0)) then (some (([] : List S28), x2_2.2)) else ((appS 32 y4_1 ([(⟨x2_2.1.f0, x2_2.1.f1, x2_2.1.f2⟩ : S28)] : List S28)).bind fun x3_3 => ih (fW .i64 (x1_2 + (x2_2.1.f1.length : Int))) x3_3))) n
theorem g11_l4_s (k : Nat)  (a0 : (List Nat)) (n : Nat) (y4_0 : Int) (y4_1 : (List S28)) : g11_l4 k a0 (n + 1) y4_0 y4_1 = ((g16 k a0 y4_0).bind fun x1_2 => if (decide (x1_2 = (a0.length : Int))) then (some (y4_1, (0 : Int))) else ((g14 k a0 x1_2).bind fun x2_2 => if (!decide (x2_2.2 = 0)) then (some (([] : List S28), x2_2.2)) else ((appS 32 y4_1 ([(⟨x2_2.1.f0, x2_2.1.f1, x2_2.1.f2⟩ : S28)] : List S28)).bind fun x3_3 => (g11_l4 k a0 n) (fW .i64 (x1_2 + (x2_2.1.f1.length : Int))) x3_3))) := rfl
theorem g11_l4_ok (k : Nat)  (a0 : (List Nat))  : ∀ (n : Nat) (y4_0 : Int) (y4_1 : (List S28)), Ok X11 g11p10 [(0, .str a0), (4, .own 0 (y4_1).length 3), (5, .int .i64 y4_0)] (mkH [⟨(y4_1).flatMap e29, 0, false⟩]) (g11_l4 k a0 n y4_0 y4_1)
 | 0, _, _ => ok_none
 | n + 1, y4_0, y4_1 => by
  have ih := g11_l4_ok k a0 n
  rw [g11_l4_s]
  let E5 : Env := [(17, .int .i64 y4_0), (16, .str a0), (0, .str a0), (4, .own 0 (y4_1).length 3), (5, .int .i64 y4_0)]
  refine oR 3 (p' := (atN 2 (ctl1 g11p10))) (eE := E5) (H' := (mkH [⟨(y4_1).flatMap e29, 0, false⟩])) (by kernel_rfl) ?_
  refine oC (fun (x1_2 : Int) => .int .i64 x1_2) (atN 3 (ctl1 g11p10)) (fun x1_2 => ((18, .int .i64 x1_2) :: E5)) (fi := 16) (args := [.str a0, .int .i64 y4_0]) (by kernel_rfl) (by kernel_rfl) (fun _ => by kernel_rfl) (fun r h => g16_ok k a0 y4_0 r h) (fun _ => by kernel_rfl) (fun x1_2 hx1_2 => ?_)
  let E6 : Env := ((22, .bool (decide (x1_2 = (a0.length : Int)))) :: (21, .int .i64 (a0.length : Int)) :: (20, .str a0) :: (19, .int .i64 x1_2) :: (5, .int .i64 x1_2) :: (18, .int .i64 x1_2) :: E5)
  refine oR 9 (p' := g11p12) (eE := E6) (H' := (mkH [⟨(y4_1).flatMap e29, 0, false⟩])) (by kernel_rfl) ?_
  refine oK [0, 4, 5, 22] (eE := [(0, .str a0), (4, .own 0 (y4_1).length 3), (5, .int .i64 x1_2), (22, .bool (decide (x1_2 = (a0.length : Int))))]) (by kernel_rfl) ?_
  refine oS 22 (b := decide (x1_2 = (a0.length : Int))) (by kernel_rfl) (fun hb => ?_) (fun hb => ?_)
  ·let E7 : Env := [(3, .int .i64 0), (2, .own 0 (y4_1).length 3), (23, .own 0 (y4_1).length 3), (22, .bool true), (0, .str a0), (4, .own 0 (y4_1).length 3), (5, .int .i64 x1_2), (22, .bool (decide (x1_2 = (a0.length : Int))))]
   refine oR 8 (p' := .fin) (eE := E7) (H' := (mkH [⟨(y4_1).flatMap e29, 0, false⟩])) (by kernel_rfl) ?_
   exact oT (r := (y4_1, (0 : Int))) (xs := [.own 0 (y4_1).length 3, .int .i64 0]) (v := .tuple [.vec (y4_1).length 3 ((y4_1).flatMap e29), .int .i64 0]) (by kernel_rfl) (by kernel_rfl) (by kernel_rfl) (.tuple (fz_own e29_len e29_pur rfl rfl (.pures (by kernel_rfl))) (.pures (by kernel_rfl))) (by kernel_rfl)
  ·let E8 : Env := [(26, .int .i64 x1_2), (25, .str a0), (22, .bool false), (0, .str a0), (4, .own 0 (y4_1).length 3), (5, .int .i64 x1_2), (22, .bool (decide (x1_2 = (a0.length : Int))))]
   refine oR 6 (p' := (atN 2 (ctl1 g11p14))) (eE := E8) (H' := (mkH [⟨(y4_1).flatMap e29, 0, false⟩])) (by kernel_rfl) ?_
   refine oC (fun (x2_2 : (S28 × Int)) => .tuple [.agg [.int .i64 x2_2.1.f0, .str x2_2.1.f1, .int .i64 x2_2.1.f2], .int .i64 x2_2.2]) (atN 3 (ctl1 g11p14)) (fun x2_2 => ((27, .tuple [.agg [.int .i64 x2_2.1.f0, .str x2_2.1.f1, .int .i64 x2_2.1.f2], .int .i64 x2_2.2]) :: E8)) (fi := 14) (args := [.str a0, .int .i64 x1_2]) (by kernel_rfl) (by kernel_rfl) (fun _ => by kernel_rfl) (fun r h => g14_ok k a0 x1_2 r h) (fun _ => by kernel_rfl) (fun x2_2 hx2_2 => ?_)
   let E9 : Env := ((7, .int .i64 x2_2.2) :: (6, .ptr 1 3 0) :: (29, .int .i64 x2_2.2) :: (28, .agg [.int .i64 x2_2.1.f0, .str x2_2.1.f1, .int .i64 x2_2.1.f2]) :: (24, .tuple [.agg [.int .i64 x2_2.1.f0, .str x2_2.1.f1, .int .i64 x2_2.1.f2], .int .i64 x2_2.2]) :: (27, .tuple [.agg [.int .i64 x2_2.1.f0, .str x2_2.1.f1, .int .i64 x2_2.1.f2], .int .i64 x2_2.2]) :: E8)
   refine oR 9 (p' := g11p15) (eE := E9) (H' := (mkH [⟨(y4_1).flatMap e29, 0, false⟩, ⟨[.int .i64 x2_2.1.f0, .str x2_2.1.f1, .int .i64 x2_2.1.f2], 3, false⟩])) (by kernel_rfl) ?_
   refine oK [0, 4, 5, 6, 7] (eE := [(0, .str a0), (4, .own 0 (y4_1).length 3), (5, .int .i64 x1_2), (6, .ptr 1 3 0), (7, .int .i64 x2_2.2)]) (by kernel_rfl) ?_
   let E10 : Env := [(31, .bool (!decide (x2_2.2 = 0))), (30, .int .i64 x2_2.2), (0, .str a0), (4, .own 0 (y4_1).length 3), (5, .int .i64 x1_2), (6, .ptr 1 3 0), (7, .int .i64 x2_2.2)]
   refine oR 4 (p' := g11p16) (eE := E10) (H' := (mkH [⟨(y4_1).flatMap e29, 0, false⟩, ⟨[.int .i64 x2_2.1.f0, .str x2_2.1.f1, .int .i64 x2_2.1.f2], 3, false⟩])) (by kernel_rfl) ?_
   refine oS 31 (b := !decide (x2_2.2 = 0)) (by kernel_rfl) (fun hb => ?_) (fun hb => ?_)
   ·refine oR 8 (p' := .fin) (eE := ((3, .int .i64 x2_2.2) :: (2, .nils) :: (32, .int .i64 x2_2.2) :: (31, .bool true) :: E10)) (H' := (mkH [⟨(y4_1).flatMap e29, 0, false⟩, ⟨[.int .i64 x2_2.1.f0, .str x2_2.1.f1, .int .i64 x2_2.1.f2], 3, false⟩])) (by kernel_rfl) ?_
    exact oT (r := (([] : List S28), x2_2.2)) (xs := [.nils, .int .i64 x2_2.2]) (v := .tuple [.vec 0 3 [], .int .i64 x2_2.2]) (by kernel_rfl) (by kernel_rfl) (by kernel_rfl) (.tuple (.nil (.pures (by kernel_rfl))) (.pures (by kernel_rfl))) (by kernel_rfl)
   ·refine oR 3 (p' := g11p18) (eE := ((31, .bool false) :: E10)) (H' := (mkH [⟨(y4_1).flatMap e29, 0, false⟩, ⟨[.int .i64 x2_2.1.f0, .str x2_2.1.f1, .int .i64 x2_2.1.f2], 3, false⟩])) (by kernel_rfl) ?_
    refine ok_bind (fun x3_3 hx3_3 => ?_)
    let E11 : Env := [(35, .slice 2 3 0 1 3), (34, .agg [.int .i64 x2_2.1.f0, .str x2_2.1.f1, .int .i64 x2_2.1.f2]), (33, .own 0 (y4_1).length 3), (31, .bool false), (31, .bool (!decide (x2_2.2 = 0))), (30, .int .i64 x2_2.2), (0, .str a0), (4, .own 0 (y4_1).length 3), (5, .int .i64 x1_2), (6, .ptr 1 3 0), (7, .int .i64 x2_2.2)]
    let E12 : Env := ((5, .int .i64 (fW .i64 (x1_2 + (x2_2.1.f1.length : Int)))) :: (4, .own 0 (x3_3).length 3) :: (41, .int .i64 (fW .i64 (x1_2 + (x2_2.1.f1.length : Int)))) :: (40, .int .i64 (x2_2.1.f1.length : Int)) :: (39, .str x2_2.1.f1) :: (38, .ptr 1 3 1) :: (37, .int .i64 x1_2) :: (36, .own 0 (x3_3).length 3) :: E11)
    refine ok_draw (p' := nav [0] g11p18) (eE := E12) (H' := (mkH [⟨(x3_3).flatMap e29, 0, false⟩, ⟨[.int .i64 x2_2.1.f0, .str x2_2.1.f1, .int .i64 x2_2.1.f2], 3, false⟩, ⟨[.int .i64 x2_2.1.f0, .str x2_2.1.f1, .int .i64 x2_2.1.f2], 0, false⟩])) (hs := [(mkH [⟨(y4_1).flatMap e29, 0, false⟩, ⟨[.int .i64 x2_2.1.f0, .str x2_2.1.f1, .int .i64 x2_2.1.f2], 3, false⟩, ⟨[.int .i64 x2_2.1.f0, .str x2_2.1.f1, .int .i64 x2_2.1.f2], 0, false⟩]), (mkH [⟨(x3_3).flatMap e29, 0, false⟩, ⟨[.int .i64 x2_2.1.f0, .str x2_2.1.f1, .int .i64 x2_2.1.f2], 3, false⟩, ⟨[.int .i64 x2_2.1.f0, .str x2_2.1.f1, .int .i64 x2_2.1.f2], 0, false⟩])]) [(0, 0, 0), (0, 0, 0), (2, 0, 0), (7, 0, 0), (0, 0, 0), (0, 0, 0), (32, 0, 2), (96, 0, 0), (240, 0, 0), (15, 0, 0), (1023, 0, 0)] (by kernel_rfl) (by kernel_rfl) (by kernel_rfl) (opsD_run 3 (l' := (opsAt g11p18).toList.drop 3) (eE := E11) (H' := (mkH [⟨(y4_1).flatMap e29, 0, false⟩, ⟨[.int .i64 x2_2.1.f0, .str x2_2.1.f1, .int .i64 x2_2.1.f2], 3, false⟩, ⟨[.int .i64 x2_2.1.f0, .str x2_2.1.f1, .int .i64 x2_2.1.f2], 0, false⟩])) (hs := [(mkH [⟨(y4_1).flatMap e29, 0, false⟩, ⟨[.int .i64 x2_2.1.f0, .str x2_2.1.f1, .int .i64 x2_2.1.f2], 3, false⟩, ⟨[.int .i64 x2_2.1.f0, .str x2_2.1.f1, .int .i64 x2_2.1.f2], 0, false⟩])]) (by kernel_rfl) (opsD_chk (l' := (opsAt g11p18).toList.drop 4) (eE := ((36, .own 0 (x3_3).length 3) :: E11)) (hs := [(mkH [⟨(x3_3).flatMap e29, 0, false⟩, ⟨[.int .i64 x2_2.1.f0, .str x2_2.1.f1, .int .i64 x2_2.1.f2], 3, false⟩, ⟨[.int .i64 x2_2.1.f0, .str x2_2.1.f1, .int .i64 x2_2.1.f2], 0, false⟩])]) (x := x3_3) (fun (x3_3 : (List S28)) => (.own 0 (x3_3).length 3, (mkH [⟨(x3_3).flatMap e29, 0, false⟩, ⟨[.int .i64 x2_2.1.f0, .str x2_2.1.f1, .int .i64 x2_2.1.f2], 3, false⟩, ⟨[.int .i64 x2_2.1.f0, .str x2_2.1.f1, .int .i64 x2_2.1.f2], 0, false⟩]))) (appH (sz := 3) e29_len rfl e29_one [⟨(y4_1).flatMap e29, 0, false⟩, ⟨[.int .i64 x2_2.1.f0, .str x2_2.1.f1, .int .i64 x2_2.1.f2], 3, false⟩, ⟨[.int .i64 x2_2.1.f0, .str x2_2.1.f1, .int .i64 x2_2.1.f2], 0, false⟩] 0 32 y4_1 ([(⟨x2_2.1.f0, x2_2.1.f1, x2_2.1.f2⟩ : S28)] : List S28) rfl rfl (by kernel_rfl)) hx3_3 (by kernel_rfl) (opsD_run 7 (l' := (opsAt g11p18).toList.drop 11) (eE := E12) (H' := (mkH [⟨(x3_3).flatMap e29, 0, false⟩, ⟨[.int .i64 x2_2.1.f0, .str x2_2.1.f1, .int .i64 x2_2.1.f2], 3, false⟩, ⟨[.int .i64 x2_2.1.f0, .str x2_2.1.f1, .int .i64 x2_2.1.f2], 0, false⟩])) (hs := []) (by kernel_rfl) (.nil)))) (by kernel_rfl) (by kernel_rfl) (by kernel_rfl) ?_
    refine oR 5 (p' := g11p10) (eE := E12) (H' := (mkH [⟨(x3_3).flatMap e29, 0, false⟩, ⟨[.int .i64 x2_2.1.f0, .str x2_2.1.f1, .int .i64 x2_2.1.f2], 3, false⟩, ⟨[.int .i64 x2_2.1.f0, .str x2_2.1.f1, .int .i64 x2_2.1.f2], 0, false⟩])) (by kernel_rfl) ?_
    refine oK [0, 4, 5] (eE := [(0, .str a0), (4, .own 0 (x3_3).length 3), (5, .int .i64 (fW .i64 (x1_2 + (x2_2.1.f1.length : Int))))]) (by kernel_rfl) ?_
    refine ok_cut [⟨(x3_3).flatMap e29, 0, false⟩] [⟨[.int .i64 x2_2.1.f0, .str x2_2.1.f1, .int .i64 x2_2.1.f2], 3, false⟩, ⟨[.int .i64 x2_2.1.f0, .str x2_2.1.f1, .int .i64 x2_2.1.f2], 0, false⟩] (by kernel_rfl) rfl (by kernel_rfl) ⟨(purs_belows _ (purs_flatMap e29_pur _)), trivial⟩ ?_
    exact ih (fW .i64 (x1_2 + (x2_2.1.f1.length : Int))) x3_3
def g11 (k : Nat) (a0 : (List Nat)) : Option ((List S28) × Int) :=
 if (decide (65536 < (a0.length : Int))) then (some (([] : List S28), (3 : Int))) else ((g18 k a0).bind fun x0_1 => if (!x0_1) then (some (([] : List S28), (2 : Int))) else (g11_l4 k a0 k 0 ([] : List S28)))
theorem g11_ok (k : Nat) (a0 : (List Nat)) (r : ((List S28) × Int)) (h : g11 k a0 = some r) : PureOk Try.prog 11 [.str a0] (.tuple [.vec (r.1).length 3 ((r.1).flatMap e29), .int .i64 r.2]) := by
 refine pure_of X11 (fun _ => rfl) Try.func11 (by decide +kernel) (by kernel_rfl) (t := g11 k a0) ?_ h
 unfold g11
 refine oE (eE := [(0, .str a0)]) (by kernel_rfl) ?_
 let E1 : Env := [(8, .bool (decide (65536 < (a0.length : Int)))), (11, .bool (decide (65536 < (a0.length : Int)))), (10, .int .i64 (a0.length : Int)), (9, .str a0), (3, .int .i64 0), (2, .nils), (0, .str a0)]
 refine oR 15 (p' := g11p2) (eE := E1) (H' := (mkH [])) (by kernel_rfl) ?_
 refine oS 8 (b := decide (65536 < (a0.length : Int))) (by kernel_rfl) (fun hb => ?_) (fun hb => ?_)
 ·refine oR 7 (p' := .fin) (eE := ((3, .int .i64 3) :: (2, .nils) :: (8, .bool true) :: E1)) (H' := (mkH [])) (by kernel_rfl) ?_
  exact oT (r := (([] : List S28), (3 : Int))) (xs := [.nils, .int .i64 3]) (v := .tuple [.vec 0 3 [], .int .i64 3]) (by kernel_rfl) (by kernel_rfl) (by kernel_rfl) (.tuple (.nil (.pures (by kernel_rfl))) (.pures (by kernel_rfl))) (by kernel_rfl)
 ·refine oR 4 (p' := (atN 1 (ctl1 g11p4))) (eE := ((13, .str a0) :: (8, .bool false) :: E1)) (H' := (mkH [])) (by kernel_rfl) ?_
  refine oC (fun (x0_1 : Bool) => .bool x0_1) (atN 2 (ctl1 g11p4)) (fun x0_1 => ((14, .bool x0_1) :: (13, .str a0) :: (8, .bool false) :: E1)) (fi := 18) (args := [.str a0]) (by kernel_rfl) (by kernel_rfl) (fun _ => by kernel_rfl) (fun r h => g18_ok k a0 r h) (fun _ => by kernel_rfl) (fun x0_1 hx0_1 => ?_)
  let E2 : Env := ((12, .bool (!x0_1)) :: (15, .bool (!x0_1)) :: (14, .bool x0_1) :: (13, .str a0) :: (8, .bool false) :: E1)
  refine oR 3 (p' := g11p6) (eE := E2) (H' := (mkH [])) (by kernel_rfl) ?_
  refine oK [0, 12] (eE := [(0, .str a0), (12, .bool (!x0_1))]) (by kernel_rfl) ?_
  refine oS 12 (b := !x0_1) (by kernel_rfl) (fun hb => ?_) (fun hb => ?_)
  ·let E3 : Env := [(3, .int .i64 2), (2, .nils), (12, .bool true), (0, .str a0), (12, .bool (!x0_1))]
   refine oR 7 (p' := .fin) (eE := E3) (H' := (mkH [])) (by kernel_rfl) ?_
   exact oT (r := (([] : List S28), (2 : Int))) (xs := [.nils, .int .i64 2]) (v := .tuple [.vec 0 3 [], .int .i64 2]) (by kernel_rfl) (by kernel_rfl) (by kernel_rfl) (.tuple (.nil (.pures (by kernel_rfl))) (.pures (by kernel_rfl))) (by kernel_rfl)
  ·refine oR 5 (p' := (atN 1 (ctl1 g11p8))) (eE := [(4, .nils), (12, .bool false), (0, .str a0), (12, .bool (!x0_1))]) (H' := (mkH [])) (by kernel_rfl) ?_
   refine ok_own [] 4 3 rfl (by kernel_rfl) ?_
   refine oE (eE := [(4, .own 0 (([] : List S28)).length 3), (4, .nils), (12, .bool false), (0, .str a0), (12, .bool (!x0_1))]) (by kernel_rfl) ?_
   refine ok_heap (H' := (mkH [⟨(([] : List S28)).flatMap e29, 0, false⟩])) (by kernel_rfl) ?_
   let E4 : Env := [(5, .int .i64 0), (4, .own 0 (([] : List S28)).length 3), (4, .nils), (12, .bool false), (0, .str a0), (12, .bool (!x0_1))]
   refine oR 9 (p' := g11p10) (eE := E4) (H' := (mkH [⟨(([] : List S28)).flatMap e29, 0, false⟩])) (by kernel_rfl) ?_
   refine oK [0, 4, 5] (eE := [(0, .str a0), (4, .own 0 (([] : List S28)).length 3), (5, .int .i64 0)]) (by kernel_rfl) ?_
   exact (g11_l4_ok k a0 k) 0 ([] : List S28)
end
end Go.Proofs.Ytokcjgjgojlhbaa.Am
set_option maxRecDepth 100000
set_option linter.unusedVariables false
set_option linter.unusedSimpArgs false
namespace Go.Proofs.Ytokcjgjgojlhbaa.Am
open Go
theorem one_at {k : Nat} {s : List Nat} (hk : s.length + 40 < k) (hs : By s) (hl : Sz s) (hne : s ≠ []) : g20 k s = some (((oneN s).1 : Int), ((oneN s).2 : Int)) := by
 have hl' := hl
 unfold Sz at hl
 obtain ⟨c, r, rfl⟩ : ∃ c r, s = c :: r := List.exists_cons_of_ne_nil hne
 unfold g20
 have n0 : nthS (c :: r) 0 = some (c : Int) := nthX (i := 0) rfl rfl
 have c256 := hs.head
 refine bS (by (try simp (disch := omega) only [fwI]); exact n0) ?_
 simp only [oneN]
 by_cases h37 : c = 37
 ·subst h37
  rw [if_pos rfl]
  refine iT rfl ?_
  refine bS (by (try simp (disch := omega) only [fwI]); exact snote_at (by omega) hs hl' rfl) ?_
  rfl
 rw [if_neg h37]
 refine iF (dF (by omega)) ?_
 by_cases h46 : c = 46 ∧ dotN r = true
 ·rw [if_pos h46]
  refine (jS (v := true) (fun j => ?_)).trans rfl
  obtain ⟨rfl, hd⟩ := h46
  refine iT rfl ?_
  cases r with
  | nil => rfl
  | cons d q =>
   have n1 : nthS (46 :: d :: q) 1 = some (d : Int) := nthX (i := 1) rfl rfl
   have d256 := hs.tail.head
   simp only [List.length_cons]
   refine iF (by first | (simp (disch := omega) only [↓reduceIte, ↓jn, gsL]; done) | rfl) ?_
   refine bS (by (try simp (disch := omega) only [fwI]); exact n1) ?_
   refine bS (by (try simp (disch := omega) only [fwI]); exact blank_at k d256) ?_
   simp only [dotN] at hd
   cases hb : blkN d with
   | true => rfl
   | false =>
    rw [hb, Bool.false_or, decide_eq_true_eq] at hd
    refine iF rfl ?_
    refine bS (by (try simp (disch := omega) only [fwI]); exact n1) ?_
    rw [dT (by omega)]
 ·rw [if_neg h46]
  refine (jS (v := false) (fun j => ?_)).trans ?_
  ·by_cases hc : c = 46
   ·subst hc
    refine iT rfl ?_
    have hd : ¬ dotN r = true := fun h => h46 ⟨rfl, h⟩
    cases r with
    | nil => exact absurd rfl hd
    | cons d q =>
     have n1 : nthS (46 :: d :: q) 1 = some (d : Int) := nthX (i := 1) rfl rfl
     have d256 := hs.tail.head
     simp only [dotN, Bool.or_eq_true, decide_eq_true_eq, not_or] at hd
     simp only [List.length_cons]
     refine iF (by first | (simp (disch := omega) only [↓reduceIte, ↓jn, gsL]; done) | rfl) ?_
     refine bS (by (try simp (disch := omega) only [fwI]); exact n1) ?_
     refine bS (by (try simp (disch := omega) only [fwI]); exact blank_at k d256) ?_
     refine iF (by simpa using hd.1) ?_
     refine bS (by (try simp (disch := omega) only [fwI]); exact n1) ?_
     rw [dF (by omega)]
   ·refine iF (dF (by omega)) rfl
  ·refine iF rfl ?_
   by_cases h39 : c = 39
   ·subst h39
    rw [if_pos rfl]
    refine iT rfl ?_
    refine bS (by (try simp (disch := omega) only [fwI]); exact quoted_at (by omega) hs hl' rfl (.inl rfl)) ?_
    rfl
   rw [if_neg h39]
   refine iF (dF (by omega)) ?_
   by_cases h34 : c = 34
   ·subst h34
    rw [if_pos rfl]
    refine iT rfl ?_
    refine bS (by (try simp (disch := omega) only [fwI]); exact quoted_at (by omega) hs hl' rfl (.inr rfl)) ?_
    rfl
   rw [if_neg h34]
   refine iF (dF (by omega)) ?_
   by_cases h36 : c = 36
   ·subst h36
    rw [if_pos rfl]
    refine iT rfl ?_
    refine bS (by (try simp (disch := omega) only [fwI]); exact char_at (by omega) hs hl' rfl) ?_
    rfl
   rw [if_neg h36]
   refine iF (dF (by omega)) ?_
   by_cases h63 : c = 63
   ·subst h63
    rw [if_pos rfl]
    refine iT rfl ?_
    refine bS (by (try simp (disch := omega) only [fwI]); exact macro_at (by omega) hs hl' rfl) ?_
    rfl
   rw [if_neg h63]
   refine iF (dF (by omega)) ?_
   refine bS (by (try simp (disch := omega) only [fwI]); exact begins_at37 k c256) ?_
   by_cases h3 : begN c = 3
   ·rw [if_pos h3]
    refine iT (dT (by omega)) ?_
    refine bS (by (try simp (disch := omega) only [fwI]); exact number_at (by omega) (by omega) hs hl') ?_
    rfl
   rw [if_neg h3]
   refine iF (dF (by omega)) ?_
   by_cases h12 : begN c = 1 ∨ begN c = 2
   ·rw [if_pos h12]
    refine (jS (v := true) (fun j => ?_)).trans ?_
    ·rcases h12 with h | h
     ·refine iT (dT (by omega)) rfl
     ·refine iF (dF (by omega)) ?_
      rw [dT (by omega)]
    ·refine iT rfl ?_
     refine bS (by (try simp (disch := omega) only [fwI]); exact sinner_at (by omega) hs hl') ?_
     have il := innN_le (c :: r)
     refine bS (by (try simp (disch := omega) only [fwI]); exact subTo (s := c :: r) (x := (innN (c :: r) : Int)) (i := innN (c :: r)) rfl il) ?_
     refine bS (by (try simp (disch := omega) only [fwI]); exact reserved_at k _) ?_
     cases rsvN ((c :: r).take (innN (c :: r))) <;> rfl
   ·rw [if_neg h12]
    refine (jS (v := false) (fun j => ?_)).trans ?_
    ·refine iF (dF (by omega)) ?_
     rw [dF (by omega)]
    ·refine iF rfl ?_
     refine bS (by (try simp (disch := omega) only [fwI]); exact longest_at k (s := c :: r) (by simp)) ?_
     rfl
theorem One_at {k : Nat} {s : List Nat} (hk : s.length + 40 < k) (hs : By s) (hl : Sz s) {a : Nat} (ha : a < s.length) : g14 k s (a : Int) = some (oneAt s a) := by
 have hl' := hl
 unfold Sz at hl
 unfold g14 oneAt
 refine (jS (v := false) (fun j => by simp (disch := omega) only [↓reduceIte, ↓jn, gsL])).trans ?_
 refine iF rfl ?_
 refine bS (by (try simp (disch := omega) only [fwI]); exact subFrom (s := s) (x := (a : Int)) (i := a) rfl (by omega)) ?_
 have hne : s.drop a ≠ [] := drop_lt ha
 refine bS (by (try simp (disch := omega) only [fwI]); exact one_at (s := s.drop a) (by rw [List.length_drop]; omega) (hs.drop a) (by unfold Sz; rw [List.length_drop]; omega) hne) ?_
 have ol := oneN_le (s.drop a)
 rw [List.length_drop] at ol
 by_cases h0 : (oneN (s.drop a)).1 = 0
 ·rw [if_pos h0]
  refine iT (dT (by omega)) rfl
 ·rw [if_neg h0]
  refine iF (dF (by omega)) ?_
  rw [fw_a (by omega) (by omega)]
  refine bS (by (try simp (disch := omega) only [fwI]); exact subMid (s := s) (x := (a : Int)) (y := ((a + (oneN (s.drop a)).1 : Nat) : Int)) (i := a) (j := a + (oneN (s.drop a)).1) rfl rfl (by omega) (by omega)) ?_
  rw [List.drop_take, Nat.add_sub_cancel_left]
  rfl
theorem scan_l (k : Nat) {s : List Nat} (hk : s.length + 40 < k) (hs : By s) (hl : Sz s) (h16 : s.length ≤ 65536) : ∀ (d f a : Nat) (acc : List S28), s.length < a + d → d < f → a ≤ s.length → acc.length ≤ a → g11_l4 k s f (a : Int) acc = some (match toksN s d a with | some l => (acc ++ l.map (mkTok s), 0) | none => ([], 4))
 | 0, f, a, acc, h, hf, ha, hacc => by omega
 | d + 1, f, a, acc, h, hf, ha, hacc => by
  have hl' := hl
  unfold Sz at hl
  obtain ⟨f, rfl⟩ : ∃ f', f = f' + 1 := ⟨f - 1, by omega⟩
  rw [g11_l4_s]
  have sl := skipN_le (s.drop a)
  rw [List.length_drop] at sl
  refine bS (by (try simp (disch := omega) only [fwI]); exact sblank_at (by omega) hs hl' ha) ?_
  unfold toksN
  have hab : a ≤ a + skipN (s.drop a) := Nat.le_add_right _ _
  have hbl : a + skipN (s.drop a) ≤ s.length := by omega
  generalize a + skipN (s.drop a) = b at *
  by_cases hb : s.length ≤ b
  ·rw [if_pos hb]
   refine iT (dT (by omega)) ?_
   simp only [List.map_nil, List.append_nil]
  ·rw [if_neg hb]
   refine iF (dF (by omega)) ?_
   refine bS (by (try simp (disch := omega) only [fwI]); exact One_at hk hs hl' (a := b) (by omega)) ?_
   have ol := oneN_le (s.drop b)
   rw [List.length_drop] at ol
   unfold oneAt
   by_cases h0 : (oneN (s.drop b)).1 = 0
   ·rw [if_pos h0, if_pos h0]; rfl
   ·rw [if_neg h0, if_neg h0]
    refine iF rfl ?_
    have ap : appS 32 acc [mkTok s ((oneN (s.drop b)).2, b, (oneN (s.drop b)).1)] = some (acc ++ [mkTok s ((oneN (s.drop b)).2, b, (oneN (s.drop b)).1)]) := by
     unfold appS
     rw [if_pos (by simp only [List.length_cons, List.length_nil]; omega)]
    refine bS (by (try simp (disch := omega) only [fwI]); exact ap) ?_
    have tl : ((s.drop b).take (oneN (s.drop b)).1).length = (oneN (s.drop b)).1 := by
     rw [List.length_take, List.length_drop]; omega
    show g11_l4 k s f (fW .i64 ((b : Int) + (((s.drop b).take (oneN (s.drop b)).1).length : Int))) _ = _
    rw [tl, fw_a (by omega) (by omega)]
    have hpos : 0 < (oneN (s.drop b)).1 := Nat.pos_of_ne_zero h0
    refine (scan_l k hk hs hl' h16 d f (b + (oneN (s.drop b)).1) _ (by omega) (by omega) (by omega) (by rw [List.length_append]; simp only [List.length_cons, List.length_nil]; omega)).trans ?_
    cases toksN s d (b + (oneN (s.drop b)).1) with
    | none => rfl
    | some l => simp only [Option.map_some, List.map_cons, List.append_assoc, List.singleton_append]
theorem scan_at {k : Nat} {s : List Nat} (hk : s.length + 40 < k) (hs : By s) (hl : Sz s) : g11 k s = some (scanN s) := by
 have hl' := hl
 unfold Sz at hl
 unfold g11 scanN
 by_cases h16 : 65536 < s.length
 ·rw [if_pos h16]
  refine iT (dT (by omega)) rfl
 ·rw [if_neg h16]
  refine iF (dF (by omega)) ?_
  refine bS (by (try simp (disch := omega) only [fwI]); exact valid_at18 (by omega) hs hl') ?_
  cases hv : vld s.length s with
  | false => rfl
  | true =>
   refine iF rfl ?_
   refine (scan_l k hk hs hl' (by omega) (s.length + 1) k 0 [] (by omega) (by omega) (by omega) (Nat.le_refl _)).trans ?_
   simp only [Bool.true_eq_false, if_false]
   cases toksN s (s.length + 1) 0 <;> rfl
end Go.Proofs.Ytokcjgjgojlhbaa.Am
set_option maxRecDepth 100000
set_option linter.unusedVariables false
namespace Go.Proofs.Ytokcjgjgojlhbaa.Am
noncomputable section
open Go
def X10 : Fx Bool := ⟨Try.prog, cx, Try.f10, fun r => .bool r, 0, fun _ => H0, cxTi, cxOrd⟩
def g10c0 : List Nat := [97, 46, 98, 46, 32, 37, 99, 32, 10]
def g10c1 : List Nat := [49, 46, 53, 101, 51, 120]
def g10p0 : Pt := nav [0] (bodyAt Try.f10)
def g10p1 : Pt := nav [0, 0, 0] g10p0
def g10p2 : Pt := nav [0, 0, 0] g10p1
def g10p3 : Pt := nav [0, 0, 0] g10p2
def g10p4 : Pt := nav [0, 0, 0] g10p3
def g10p5 : Pt := nav [0, 0, 0] g10p4
def g10 (k : Nat)  : Option Bool :=
 (g11 k g10c0).bind fun x0_0 => (g11 k ([39, 97] : List Nat)).bind fun x1_0 => (g11 k ([255] : List Nat)).bind fun x2_0 => (g14 k g10c1 (0 : Int)).bind fun x3_0 => if (decide (x0_0.2 = 0)) then (if (decide ((x0_0.1.length : Int) = 5)) then ((nthL x0_0.1 1).bind fun x4_9 => if (decide (x4_9.f0 = 9)) then ((nthL x0_0.1 3).bind fun x4_16 => if (decide (x4_16.f0 = 10)) then ((nthL x0_0.1 4).bind fun x4_23 => if (decide (x4_23.f0 = 11)) then ((nthL x0_0.1 4).bind fun x4_30 => if (eqL x4_30.f1 [37, 99]) then (if (decide (x1_0.2 = 4)) then (if (decide (x2_0.2 = 2)) then (if (decide (x3_0.2 = 4)) then (if (decide (x3_0.1.f0 = 0)) then ((g16 k ([32, 10, 32, 120] : List Nat) (0 : Int)).bind fun x4_53 => some (decide (x4_53 = 3))) else (some false)) else (some false)) else (some false)) else (some false)) else (some false)) else (some false)) else (some false)) else (some false)) else (some false)) else (some false)
theorem g10_ok (k : Nat)  (r : Bool) (h : g10 k  = some r) : PureOk Try.prog 10 [] (.bool r) := by
 refine pure_of X10 (fun _ => rfl) Try.func10 (by decide +kernel) (by kernel_rfl) (t := g10 k ) ?_ h
 unfold g10
 refine oE (eE := []) (by kernel_rfl) ?_
 refine oR 6 (p' := (atN 0 (ctl1 g10p1))) (eE := [(0, .bool false)]) (H' := (mkH [])) (by kernel_rfl) ?_
 refine oC (fun (x0_0 : ((List S28) × Int)) => .tuple [.vec (x0_0.1).length 3 ((x0_0.1).flatMap e29), .int .i64 x0_0.2]) (atN 1 (ctl1 g10p1)) (fun x0_0 => [(10, .tuple [.vec (x0_0.1).length 3 ((x0_0.1).flatMap e29), .int .i64 x0_0.2]), (0, .bool false)]) (fi := 11) (args := [.str g10c0]) (by kernel_rfl) (by kernel_rfl) (fun _ => by kernel_rfl) (fun r h => g11_ok k g10c0 r h) (fun _ => by kernel_rfl) (fun x0_0 hx0_0 => ?_)
 let E1 : Env := [(2, .int .i64 x0_0.2), (1, .vec (x0_0.1).length 3 ((x0_0.1).flatMap e29)), (12, .int .i64 x0_0.2), (11, .vec (x0_0.1).length 3 ((x0_0.1).flatMap e29)), (9, .tuple [.vec (x0_0.1).length 3 ((x0_0.1).flatMap e29), .int .i64 x0_0.2]), (10, .tuple [.vec (x0_0.1).length 3 ((x0_0.1).flatMap e29), .int .i64 x0_0.2]), (0, .bool false)]
 refine oR 8 (p' := (atN 0 (ctl1 g10p2))) (eE := E1) (H' := (mkH [])) (by kernel_rfl) ?_
 refine oC (fun (x1_0 : ((List S28) × Int)) => .tuple [.vec (x1_0.1).length 3 ((x1_0.1).flatMap e29), .int .i64 x1_0.2]) (atN 1 (ctl1 g10p2)) (fun x1_0 => ((14, .tuple [.vec (x1_0.1).length 3 ((x1_0.1).flatMap e29), .int .i64 x1_0.2]) :: E1)) (fi := 11) (args := [.str [39, 97]]) (by kernel_rfl) (by kernel_rfl) (fun _ => by kernel_rfl) (fun r h => g11_ok k ([39, 97] : List Nat) r h) (fun _ => by kernel_rfl) (fun x1_0 hx1_0 => ?_)
 let E2 : Env := ((4, .int .i64 x1_0.2) :: (3, .vec (x1_0.1).length 3 ((x1_0.1).flatMap e29)) :: (16, .int .i64 x1_0.2) :: (15, .vec (x1_0.1).length 3 ((x1_0.1).flatMap e29)) :: (13, .tuple [.vec (x1_0.1).length 3 ((x1_0.1).flatMap e29), .int .i64 x1_0.2]) :: (14, .tuple [.vec (x1_0.1).length 3 ((x1_0.1).flatMap e29), .int .i64 x1_0.2]) :: E1)
 refine oR 7 (p' := g10p3) (eE := E2) (H' := (mkH [])) (by kernel_rfl) ?_
 refine oK [1, 2, 4] (eE := [(1, .vec (x0_0.1).length 3 ((x0_0.1).flatMap e29)), (2, .int .i64 x0_0.2), (4, .int .i64 x1_0.2)]) (by kernel_rfl) ?_
 refine oR 1 (p' := (atN 0 (ctl1 g10p3))) (eE := [(1, .vec (x0_0.1).length 3 ((x0_0.1).flatMap e29)), (2, .int .i64 x0_0.2), (4, .int .i64 x1_0.2)]) (H' := (mkH [])) (by kernel_rfl) ?_
 refine oC (fun (x2_0 : ((List S28) × Int)) => .tuple [.vec (x2_0.1).length 3 ((x2_0.1).flatMap e29), .int .i64 x2_0.2]) (atN 1 (ctl1 g10p3)) (fun x2_0 => [(18, .tuple [.vec (x2_0.1).length 3 ((x2_0.1).flatMap e29), .int .i64 x2_0.2]), (1, .vec (x0_0.1).length 3 ((x0_0.1).flatMap e29)), (2, .int .i64 x0_0.2), (4, .int .i64 x1_0.2)]) (fi := 11) (args := [.str [255]]) (by kernel_rfl) (by kernel_rfl) (fun _ => by kernel_rfl) (fun r h => g11_ok k ([255] : List Nat) r h) (fun _ => by kernel_rfl) (fun x2_0 hx2_0 => ?_)
 let E3 : Env := [(6, .int .i64 x2_0.2), (5, .vec (x2_0.1).length 3 ((x2_0.1).flatMap e29)), (20, .int .i64 x2_0.2), (19, .vec (x2_0.1).length 3 ((x2_0.1).flatMap e29)), (17, .tuple [.vec (x2_0.1).length 3 ((x2_0.1).flatMap e29), .int .i64 x2_0.2]), (18, .tuple [.vec (x2_0.1).length 3 ((x2_0.1).flatMap e29), .int .i64 x2_0.2]), (1, .vec (x0_0.1).length 3 ((x0_0.1).flatMap e29)), (2, .int .i64 x0_0.2), (4, .int .i64 x1_0.2)]
 refine oR 8 (p' := (atN 0 (ctl1 g10p4))) (eE := E3) (H' := (mkH [])) (by kernel_rfl) ?_
 refine oC (fun (x3_0 : (S28 × Int)) => .tuple [.agg [.int .i64 x3_0.1.f0, .str x3_0.1.f1, .int .i64 x3_0.1.f2], .int .i64 x3_0.2]) (atN 1 (ctl1 g10p4)) (fun x3_0 => ((22, .tuple [.agg [.int .i64 x3_0.1.f0, .str x3_0.1.f1, .int .i64 x3_0.1.f2], .int .i64 x3_0.2]) :: E3)) (fi := 14) (args := [.str g10c1, .int .i64 0]) (by kernel_rfl) (by kernel_rfl) (fun _ => by kernel_rfl) (fun r h => g14_ok k g10c1 (0 : Int) r h) (fun _ => by kernel_rfl) (fun x3_0 hx3_0 => ?_)
 let E4 : Env := ((8, .int .i64 x3_0.2) :: (7, .ptr 0 3 0) :: (24, .int .i64 x3_0.2) :: (23, .agg [.int .i64 x3_0.1.f0, .str x3_0.1.f1, .int .i64 x3_0.1.f2]) :: (21, .tuple [.agg [.int .i64 x3_0.1.f0, .str x3_0.1.f1, .int .i64 x3_0.1.f2], .int .i64 x3_0.2]) :: (22, .tuple [.agg [.int .i64 x3_0.1.f0, .str x3_0.1.f1, .int .i64 x3_0.1.f2], .int .i64 x3_0.2]) :: E3)
 refine oR 8 (p' := g10p5) (eE := E4) (H' := (mkH [⟨[.int .i64 x3_0.1.f0, .str x3_0.1.f1, .int .i64 x3_0.1.f2], 3, false⟩])) (by kernel_rfl) ?_
 refine oK [1, 2, 4, 6, 7, 8] (eE := [(1, .vec (x0_0.1).length 3 ((x0_0.1).flatMap e29)), (2, .int .i64 x0_0.2), (4, .int .i64 x1_0.2), (6, .int .i64 x2_0.2), (7, .ptr 0 3 0), (8, .int .i64 x3_0.2)]) (by kernel_rfl) ?_
 let E5 : Env := [(27, .bool (decide (x0_0.2 = 0))), (26, .bool (decide (x0_0.2 = 0))), (25, .int .i64 x0_0.2), (1, .vec (x0_0.1).length 3 ((x0_0.1).flatMap e29)), (2, .int .i64 x0_0.2), (4, .int .i64 x1_0.2), (6, .int .i64 x2_0.2), (7, .ptr 0 3 0), (8, .int .i64 x3_0.2)]
 refine oR 4 (p' := (atN 3 (ctl1 g10p5))) (eE := E5) (H' := (mkH [⟨[.int .i64 x3_0.1.f0, .str x3_0.1.f1, .int .i64 x3_0.1.f2], 3, false⟩])) (by kernel_rfl) ?_
 refine oS 27 (b := decide (x0_0.2 = 0)) (by kernel_rfl) (fun hb => ?_) (fun hb => ?_)
 ·let E6 : Env := ((32, .bool (decide ((x0_0.1.length : Int) = 5))) :: (31, .bool (decide ((x0_0.1.length : Int) = 5))) :: (30, .bool (decide ((x0_0.1.length : Int) = 5))) :: (29, .int .i64 (x0_0.1.length : Int)) :: (28, .vec (x0_0.1).length 3 ((x0_0.1).flatMap e29)) :: (27, .bool true) :: E5)
  refine oR 5 (p' := (atN 8 (ctl1 g10p5))) (eE := E6) (H' := (mkH [⟨[.int .i64 x3_0.1.f0, .str x3_0.1.f1, .int .i64 x3_0.1.f2], 3, false⟩])) (by kernel_rfl) ?_
  refine oS 32 (b := decide ((x0_0.1.length : Int) = 5)) (by kernel_rfl) (fun hb => ?_) (fun hb => ?_)
  ·refine oR 1 (p' := (atN 9 (ctl1 g10p5))) (eE := ((33, .vec (x0_0.1).length 3 ((x0_0.1).flatMap e29)) :: (32, .bool true) :: E6)) (H' := (mkH [⟨[.int .i64 x3_0.1.f0, .str x3_0.1.f1, .int .i64 x3_0.1.f2], 3, false⟩])) (by kernel_rfl) ?_
   refine oH (fun (x4_9 : S28) => (.vptr [.int .i64 x4_9.f0, .str x4_9.f1, .int .i64 x4_9.f2], (mkH [⟨[.int .i64 x3_0.1.f0, .str x3_0.1.f1, .int .i64 x3_0.1.f2], 3, false⟩]))) (atN 10 (ctl1 g10p5)) (fun x4_9 => ((34, .vptr [.int .i64 x4_9.f0, .str x4_9.f1, .int .i64 x4_9.f2]) :: (33, .vec (x0_0.1).length 3 ((x0_0.1).flatMap e29)) :: (32, .bool true) :: E6)) (vidxH (sz := 3) e29_len (by kernel_rfl)) (fun _ => by kernel_rfl) (fun x4_9 hx4_9 => ?_)
   let E7 : Env := ((39, .bool (decide (x4_9.f0 = 9))) :: (38, .bool (decide (x4_9.f0 = 9))) :: (37, .bool (decide (x4_9.f0 = 9))) :: (36, .int .i64 x4_9.f0) :: (35, .vptr [.int .i64 x4_9.f0, .str x4_9.f1, .int .i64 x4_9.f2]) :: (34, .vptr [.int .i64 x4_9.f0, .str x4_9.f1, .int .i64 x4_9.f2]) :: (33, .vec (x0_0.1).length 3 ((x0_0.1).flatMap e29)) :: (32, .bool true) :: E6)
   refine oR 5 (p' := (atN 15 (ctl1 g10p5))) (eE := E7) (H' := (mkH [⟨[.int .i64 x3_0.1.f0, .str x3_0.1.f1, .int .i64 x3_0.1.f2], 3, false⟩])) (by kernel_rfl) ?_
   refine oS 39 (b := decide (x4_9.f0 = 9)) (by kernel_rfl) (fun hb => ?_) (fun hb => ?_)
   ·refine oR 1 (p' := (atN 16 (ctl1 g10p5))) (eE := ((40, .vec (x0_0.1).length 3 ((x0_0.1).flatMap e29)) :: (39, .bool true) :: E7)) (H' := (mkH [⟨[.int .i64 x3_0.1.f0, .str x3_0.1.f1, .int .i64 x3_0.1.f2], 3, false⟩])) (by kernel_rfl) ?_
    refine oH (fun (x4_16 : S28) => (.vptr [.int .i64 x4_16.f0, .str x4_16.f1, .int .i64 x4_16.f2], (mkH [⟨[.int .i64 x3_0.1.f0, .str x3_0.1.f1, .int .i64 x3_0.1.f2], 3, false⟩]))) (atN 17 (ctl1 g10p5)) (fun x4_16 => ((41, .vptr [.int .i64 x4_16.f0, .str x4_16.f1, .int .i64 x4_16.f2]) :: (40, .vec (x0_0.1).length 3 ((x0_0.1).flatMap e29)) :: (39, .bool true) :: E7)) (vidxH (sz := 3) e29_len (by kernel_rfl)) (fun _ => by kernel_rfl) (fun x4_16 hx4_16 => ?_)
    let E8 : Env := ((46, .bool (decide (x4_16.f0 = 10))) :: (45, .bool (decide (x4_16.f0 = 10))) :: (44, .bool (decide (x4_16.f0 = 10))) :: (43, .int .i64 x4_16.f0) :: (42, .vptr [.int .i64 x4_16.f0, .str x4_16.f1, .int .i64 x4_16.f2]) :: (41, .vptr [.int .i64 x4_16.f0, .str x4_16.f1, .int .i64 x4_16.f2]) :: (40, .vec (x0_0.1).length 3 ((x0_0.1).flatMap e29)) :: (39, .bool true) :: E7)
    refine oR 5 (p' := (atN 22 (ctl1 g10p5))) (eE := E8) (H' := (mkH [⟨[.int .i64 x3_0.1.f0, .str x3_0.1.f1, .int .i64 x3_0.1.f2], 3, false⟩])) (by kernel_rfl) ?_
    refine oS 46 (b := decide (x4_16.f0 = 10)) (by kernel_rfl) (fun hb => ?_) (fun hb => ?_)
    ·refine oR 1 (p' := (atN 23 (ctl1 g10p5))) (eE := ((47, .vec (x0_0.1).length 3 ((x0_0.1).flatMap e29)) :: (46, .bool true) :: E8)) (H' := (mkH [⟨[.int .i64 x3_0.1.f0, .str x3_0.1.f1, .int .i64 x3_0.1.f2], 3, false⟩])) (by kernel_rfl) ?_
     refine oH (fun (x4_23 : S28) => (.vptr [.int .i64 x4_23.f0, .str x4_23.f1, .int .i64 x4_23.f2], (mkH [⟨[.int .i64 x3_0.1.f0, .str x3_0.1.f1, .int .i64 x3_0.1.f2], 3, false⟩]))) (atN 24 (ctl1 g10p5)) (fun x4_23 => ((48, .vptr [.int .i64 x4_23.f0, .str x4_23.f1, .int .i64 x4_23.f2]) :: (47, .vec (x0_0.1).length 3 ((x0_0.1).flatMap e29)) :: (46, .bool true) :: E8)) (vidxH (sz := 3) e29_len (by kernel_rfl)) (fun _ => by kernel_rfl) (fun x4_23 hx4_23 => ?_)
     let E9 : Env := ((53, .bool (decide (x4_23.f0 = 11))) :: (52, .bool (decide (x4_23.f0 = 11))) :: (51, .bool (decide (x4_23.f0 = 11))) :: (50, .int .i64 x4_23.f0) :: (49, .vptr [.int .i64 x4_23.f0, .str x4_23.f1, .int .i64 x4_23.f2]) :: (48, .vptr [.int .i64 x4_23.f0, .str x4_23.f1, .int .i64 x4_23.f2]) :: (47, .vec (x0_0.1).length 3 ((x0_0.1).flatMap e29)) :: (46, .bool true) :: E8)
     refine oR 5 (p' := (atN 29 (ctl1 g10p5))) (eE := E9) (H' := (mkH [⟨[.int .i64 x3_0.1.f0, .str x3_0.1.f1, .int .i64 x3_0.1.f2], 3, false⟩])) (by kernel_rfl) ?_
     refine oS 53 (b := decide (x4_23.f0 = 11)) (by kernel_rfl) (fun hb => ?_) (fun hb => ?_)
     ·refine oR 1 (p' := (atN 30 (ctl1 g10p5))) (eE := ((54, .vec (x0_0.1).length 3 ((x0_0.1).flatMap e29)) :: (53, .bool true) :: E9)) (H' := (mkH [⟨[.int .i64 x3_0.1.f0, .str x3_0.1.f1, .int .i64 x3_0.1.f2], 3, false⟩])) (by kernel_rfl) ?_
      refine oH (fun (x4_30 : S28) => (.vptr [.int .i64 x4_30.f0, .str x4_30.f1, .int .i64 x4_30.f2], (mkH [⟨[.int .i64 x3_0.1.f0, .str x3_0.1.f1, .int .i64 x3_0.1.f2], 3, false⟩]))) (atN 31 (ctl1 g10p5)) (fun x4_30 => ((55, .vptr [.int .i64 x4_30.f0, .str x4_30.f1, .int .i64 x4_30.f2]) :: (54, .vec (x0_0.1).length 3 ((x0_0.1).flatMap e29)) :: (53, .bool true) :: E9)) (vidxH (sz := 3) e29_len (by kernel_rfl)) (fun _ => by kernel_rfl) (fun x4_30 hx4_30 => ?_)
      let E10 : Env := ((60, .bool (eqL x4_30.f1 [37, 99])) :: (59, .bool (eqL x4_30.f1 [37, 99])) :: (58, .bool (eqL x4_30.f1 [37, 99])) :: (57, .str x4_30.f1) :: (56, .vptr [.str x4_30.f1, .int .i64 x4_30.f2]) :: (55, .vptr [.int .i64 x4_30.f0, .str x4_30.f1, .int .i64 x4_30.f2]) :: (54, .vec (x0_0.1).length 3 ((x0_0.1).flatMap e29)) :: (53, .bool true) :: E9)
      refine oR 5 (p' := (atN 36 (ctl1 g10p5))) (eE := E10) (H' := (mkH [⟨[.int .i64 x3_0.1.f0, .str x3_0.1.f1, .int .i64 x3_0.1.f2], 3, false⟩])) (by kernel_rfl) ?_
      refine oS 60 (b := eqL x4_30.f1 [37, 99]) (by kernel_rfl) (fun hb => ?_) (fun hb => ?_)
      ·let E11 : Env := ((64, .bool (decide (x1_0.2 = 4))) :: (63, .bool (decide (x1_0.2 = 4))) :: (62, .bool (decide (x1_0.2 = 4))) :: (61, .int .i64 x1_0.2) :: (60, .bool true) :: E10)
       refine oR 4 (p' := (atN 40 (ctl1 g10p5))) (eE := E11) (H' := (mkH [⟨[.int .i64 x3_0.1.f0, .str x3_0.1.f1, .int .i64 x3_0.1.f2], 3, false⟩])) (by kernel_rfl) ?_
       refine oS 64 (b := decide (x1_0.2 = 4)) (by kernel_rfl) (fun hb => ?_) (fun hb => ?_)
       ·let E12 : Env := ((68, .bool (decide (x2_0.2 = 2))) :: (67, .bool (decide (x2_0.2 = 2))) :: (66, .bool (decide (x2_0.2 = 2))) :: (65, .int .i64 x2_0.2) :: (64, .bool true) :: E11)
        refine oR 4 (p' := (atN 44 (ctl1 g10p5))) (eE := E12) (H' := (mkH [⟨[.int .i64 x3_0.1.f0, .str x3_0.1.f1, .int .i64 x3_0.1.f2], 3, false⟩])) (by kernel_rfl) ?_
        refine oS 68 (b := decide (x2_0.2 = 2)) (by kernel_rfl) (fun hb => ?_) (fun hb => ?_)
        ·let E13 : Env := ((72, .bool (decide (x3_0.2 = 4))) :: (71, .bool (decide (x3_0.2 = 4))) :: (70, .bool (decide (x3_0.2 = 4))) :: (69, .int .i64 x3_0.2) :: (68, .bool true) :: E12)
         refine oR 4 (p' := (atN 48 (ctl1 g10p5))) (eE := E13) (H' := (mkH [⟨[.int .i64 x3_0.1.f0, .str x3_0.1.f1, .int .i64 x3_0.1.f2], 3, false⟩])) (by kernel_rfl) ?_
         refine oS 72 (b := decide (x3_0.2 = 4)) (by kernel_rfl) (fun hb => ?_) (fun hb => ?_)
         ·let E14 : Env := ((77, .bool (decide (x3_0.1.f0 = 0))) :: (76, .bool (decide (x3_0.1.f0 = 0))) :: (75, .bool (decide (x3_0.1.f0 = 0))) :: (74, .int .i64 x3_0.1.f0) :: (73, .ptr 0 3 0) :: (72, .bool true) :: E13)
          refine oR 5 (p' := (atN 53 (ctl1 g10p5))) (eE := E14) (H' := (mkH [⟨[.int .i64 x3_0.1.f0, .str x3_0.1.f1, .int .i64 x3_0.1.f2], 3, false⟩])) (by kernel_rfl) ?_
          refine oS 77 (b := decide (x3_0.1.f0 = 0)) (by kernel_rfl) (fun hb => ?_) (fun hb => ?_)
          ·refine oC (fun (x4_53 : Int) => .int .i64 x4_53) (atN 54 (ctl1 g10p5)) (fun x4_53 => ((78, .int .i64 x4_53) :: (77, .bool true) :: E14)) (fi := 16) (args := [.str [32, 10, 32, 120], .int .i64 0]) (by kernel_rfl) (by kernel_rfl) (fun _ => by kernel_rfl) (fun r h => g16_ok k ([32, 10, 32, 120] : List Nat) (0 : Int) r h) (fun _ => by kernel_rfl) (fun x4_53 hx4_53 => ?_)
           let E15 : Env := ((0, .bool (decide (x4_53 = 3))) :: (80, .bool (decide (x4_53 = 3))) :: (79, .bool (decide (x4_53 = 3))) :: (78, .int .i64 x4_53) :: (77, .bool true) :: E14)
           refine oR 5 (p' := .fin) (eE := E15) (H' := (mkH [⟨[.int .i64 x3_0.1.f0, .str x3_0.1.f1, .int .i64 x3_0.1.f2], 3, false⟩])) (by kernel_rfl) ?_
           exact oT (r := (decide (x4_53 = 3))) (xs := [.bool (decide (x4_53 = 3))]) (v := .bool (decide (x4_53 = 3))) (by kernel_rfl) (by kernel_rfl) (by kernel_rfl) (.pures (by kernel_rfl)) (by kernel_rfl)
          ·let E16 : Env := ((0, .bool false) :: (80, .bool false) :: (79, .tuple []) :: (78, .tuple []) :: (77, .bool false) :: E14)
           refine oR 6 (p' := .fin) (eE := E16) (H' := (mkH [⟨[.int .i64 x3_0.1.f0, .str x3_0.1.f1, .int .i64 x3_0.1.f2], 3, false⟩])) (by kernel_rfl) ?_
           exact oT (r := false) (xs := [.bool false]) (v := .bool false) (by kernel_rfl) (by kernel_rfl) (by kernel_rfl) (.pures (by kernel_rfl)) (by kernel_rfl)
         ·let E17 : Env := ((0, .bool false) :: (80, .bool false) :: (79, .tuple []) :: (78, .tuple []) :: (77, .bool false) :: (76, .bool false) :: (75, .tuple []) :: (74, .tuple []) :: (73, .tuple []) :: (72, .bool false) :: E13)
          refine oR 11 (p' := .fin) (eE := E17) (H' := (mkH [⟨[.int .i64 x3_0.1.f0, .str x3_0.1.f1, .int .i64 x3_0.1.f2], 3, false⟩])) (by kernel_rfl) ?_
          exact oT (r := false) (xs := [.bool false]) (v := .bool false) (by kernel_rfl) (by kernel_rfl) (by kernel_rfl) (.pures (by kernel_rfl)) (by kernel_rfl)
        ·let E18 : Env := ((0, .bool false) :: (80, .bool false) :: (79, .tuple []) :: (78, .tuple []) :: (77, .bool false) :: (76, .bool false) :: (75, .tuple []) :: (74, .tuple []) :: (73, .tuple []) :: (72, .bool false) :: (71, .bool false) :: (70, .tuple []) :: (69, .tuple []) :: (68, .bool false) :: E12)
         refine oR 15 (p' := .fin) (eE := E18) (H' := (mkH [⟨[.int .i64 x3_0.1.f0, .str x3_0.1.f1, .int .i64 x3_0.1.f2], 3, false⟩])) (by kernel_rfl) ?_
         exact oT (r := false) (xs := [.bool false]) (v := .bool false) (by kernel_rfl) (by kernel_rfl) (by kernel_rfl) (.pures (by kernel_rfl)) (by kernel_rfl)
       ·let E19 : Env := ((0, .bool false) :: (80, .bool false) :: (79, .tuple []) :: (78, .tuple []) :: (77, .bool false) :: (76, .bool false) :: (75, .tuple []) :: (74, .tuple []) :: (73, .tuple []) :: (72, .bool false) :: (71, .bool false) :: (70, .tuple []) :: (69, .tuple []) :: (68, .bool false) :: (67, .bool false) :: (66, .tuple []) :: (65, .tuple []) :: (64, .bool false) :: E11)
        refine oR 19 (p' := .fin) (eE := E19) (H' := (mkH [⟨[.int .i64 x3_0.1.f0, .str x3_0.1.f1, .int .i64 x3_0.1.f2], 3, false⟩])) (by kernel_rfl) ?_
        exact oT (r := false) (xs := [.bool false]) (v := .bool false) (by kernel_rfl) (by kernel_rfl) (by kernel_rfl) (.pures (by kernel_rfl)) (by kernel_rfl)
      ·let E20 : Env := ((0, .bool false) :: (80, .bool false) :: (79, .tuple []) :: (78, .tuple []) :: (77, .bool false) :: (76, .bool false) :: (75, .tuple []) :: (74, .tuple []) :: (73, .tuple []) :: (72, .bool false) :: (71, .bool false) :: (70, .tuple []) :: (69, .tuple []) :: (68, .bool false) :: (67, .bool false) :: (66, .tuple []) :: (65, .tuple []) :: (64, .bool false) :: (63, .bool false) :: (62, .tuple []) :: (61, .tuple []) :: (60, .bool false) :: E10)
       refine oR 23 (p' := .fin) (eE := E20) (H' := (mkH [⟨[.int .i64 x3_0.1.f0, .str x3_0.1.f1, .int .i64 x3_0.1.f2], 3, false⟩])) (by kernel_rfl) ?_
       exact oT (r := false) (xs := [.bool false]) (v := .bool false) (by kernel_rfl) (by kernel_rfl) (by kernel_rfl) (.pures (by kernel_rfl)) (by kernel_rfl)
     ·let E21 : Env := ((0, .bool false) :: (80, .bool false) :: (79, .tuple []) :: (78, .tuple []) :: (77, .bool false) :: (76, .bool false) :: (75, .tuple []) :: (74, .tuple []) :: (73, .tuple []) :: (72, .bool false) :: (71, .bool false) :: (70, .tuple []) :: (69, .tuple []) :: (68, .bool false) :: (67, .bool false) :: (66, .tuple []) :: (65, .tuple []) :: (64, .bool false) :: (63, .bool false) :: (62, .tuple []) :: (61, .tuple []) :: (60, .bool false) :: (59, .bool false) :: (58, .tuple []) :: (57, .tuple []) :: (56, .tuple []) :: (55, .tuple []) :: (54, .tuple []) :: (53, .bool false) :: E9)
      refine oR 30 (p' := .fin) (eE := E21) (H' := (mkH [⟨[.int .i64 x3_0.1.f0, .str x3_0.1.f1, .int .i64 x3_0.1.f2], 3, false⟩])) (by kernel_rfl) ?_
      exact oT (r := false) (xs := [.bool false]) (v := .bool false) (by kernel_rfl) (by kernel_rfl) (by kernel_rfl) (.pures (by kernel_rfl)) (by kernel_rfl)
    ·let E22 : Env := ((0, .bool false) :: (80, .bool false) :: (79, .tuple []) :: (78, .tuple []) :: (77, .bool false) :: (76, .bool false) :: (75, .tuple []) :: (74, .tuple []) :: (73, .tuple []) :: (72, .bool false) :: (71, .bool false) :: (70, .tuple []) :: (69, .tuple []) :: (68, .bool false) :: (67, .bool false) :: (66, .tuple []) :: (65, .tuple []) :: (64, .bool false) :: (63, .bool false) :: (62, .tuple []) :: (61, .tuple []) :: (60, .bool false) :: (59, .bool false) :: (58, .tuple []) :: (57, .tuple []) :: (56, .tuple []) :: (55, .tuple []) :: (54, .tuple []) :: (53, .bool false) :: (52, .bool false) :: (51, .tuple []) :: (50, .tuple []) :: (49, .tuple []) :: (48, .tuple []) :: (47, .tuple []) :: (46, .bool false) :: E8)
     refine oR 37 (p' := .fin) (eE := E22) (H' := (mkH [⟨[.int .i64 x3_0.1.f0, .str x3_0.1.f1, .int .i64 x3_0.1.f2], 3, false⟩])) (by kernel_rfl) ?_
     exact oT (r := false) (xs := [.bool false]) (v := .bool false) (by kernel_rfl) (by kernel_rfl) (by kernel_rfl) (.pures (by kernel_rfl)) (by kernel_rfl)
   ·let E23 : Env := ((0, .bool false) :: (80, .bool false) :: (79, .tuple []) :: (78, .tuple []) :: (77, .bool false) :: (76, .bool false) :: (75, .tuple []) :: (74, .tuple []) :: (73, .tuple []) :: (72, .bool false) :: (71, .bool false) :: (70, .tuple []) :: (69, .tuple []) :: (68, .bool false) :: (67, .bool false) :: (66, .tuple []) :: (65, .tuple []) :: (64, .bool false) :: (63, .bool false) :: (62, .tuple []) :: (61, .tuple []) :: (60, .bool false) :: (59, .bool false) :: (58, .tuple []) :: (57, .tuple []) :: (56, .tuple []) :: (55, .tuple []) :: (54, .tuple []) :: (53, .bool false) :: (52, .bool false) :: (51, .tuple []) :: (50, .tuple []) :: (49, .tuple []) :: (48, .tuple []) :: (47, .tuple []) :: (46, .bool false) :: (45, .bool false) :: (44, .tuple []) :: (43, .tuple []) :: (42, .tuple []) :: (41, .tuple []) :: (40, .tuple []) :: (39, .bool false) :: E7)
    refine oR 44 (p' := .fin) (eE := E23) (H' := (mkH [⟨[.int .i64 x3_0.1.f0, .str x3_0.1.f1, .int .i64 x3_0.1.f2], 3, false⟩])) (by kernel_rfl) ?_
    exact oT (r := false) (xs := [.bool false]) (v := .bool false) (by kernel_rfl) (by kernel_rfl) (by kernel_rfl) (.pures (by kernel_rfl)) (by kernel_rfl)
  ·let E24 : Env := ((0, .bool false) :: (80, .bool false) :: (79, .tuple []) :: (78, .tuple []) :: (77, .bool false) :: (76, .bool false) :: (75, .tuple []) :: (74, .tuple []) :: (73, .tuple []) :: (72, .bool false) :: (71, .bool false) :: (70, .tuple []) :: (69, .tuple []) :: (68, .bool false) :: (67, .bool false) :: (66, .tuple []) :: (65, .tuple []) :: (64, .bool false) :: (63, .bool false) :: (62, .tuple []) :: (61, .tuple []) :: (60, .bool false) :: (59, .bool false) :: (58, .tuple []) :: (57, .tuple []) :: (56, .tuple []) :: (55, .tuple []) :: (54, .tuple []) :: (53, .bool false) :: (52, .bool false) :: (51, .tuple []) :: (50, .tuple []) :: (49, .tuple []) :: (48, .tuple []) :: (47, .tuple []) :: (46, .bool false) :: (45, .bool false) :: (44, .tuple []) :: (43, .tuple []) :: (42, .tuple []) :: (41, .tuple []) :: (40, .tuple []) :: (39, .bool false) :: (38, .bool false) :: (37, .tuple []) :: (36, .tuple []) :: (35, .tuple []) :: (34, .tuple []) :: (33, .tuple []) :: (32, .bool false) :: E6)
   refine oR 51 (p' := .fin) (eE := E24) (H' := (mkH [⟨[.int .i64 x3_0.1.f0, .str x3_0.1.f1, .int .i64 x3_0.1.f2], 3, false⟩])) (by kernel_rfl) ?_
   exact oT (r := false) (xs := [.bool false]) (v := .bool false) (by kernel_rfl) (by kernel_rfl) (by kernel_rfl) (.pures (by kernel_rfl)) (by kernel_rfl)
 ·let E25 : Env := ((0, .bool false) :: (80, .bool false) :: (79, .tuple []) :: (78, .tuple []) :: (77, .bool false) :: (76, .bool false) :: (75, .tuple []) :: (74, .tuple []) :: (73, .tuple []) :: (72, .bool false) :: (71, .bool false) :: (70, .tuple []) :: (69, .tuple []) :: (68, .bool false) :: (67, .bool false) :: (66, .tuple []) :: (65, .tuple []) :: (64, .bool false) :: (63, .bool false) :: (62, .tuple []) :: (61, .tuple []) :: (60, .bool false) :: (59, .bool false) :: (58, .tuple []) :: (57, .tuple []) :: (56, .tuple []) :: (55, .tuple []) :: (54, .tuple []) :: (53, .bool false) :: (52, .bool false) :: (51, .tuple []) :: (50, .tuple []) :: (49, .tuple []) :: (48, .tuple []) :: (47, .tuple []) :: (46, .bool false) :: (45, .bool false) :: (44, .tuple []) :: (43, .tuple []) :: (42, .tuple []) :: (41, .tuple []) :: (40, .tuple []) :: (39, .bool false) :: (38, .bool false) :: (37, .tuple []) :: (36, .tuple []) :: (35, .tuple []) :: (34, .tuple []) :: (33, .tuple []) :: (32, .bool false) :: (31, .bool false) :: (30, .tuple []) :: (29, .tuple []) :: (28, .tuple []) :: (27, .bool false) :: E5)
  refine oR 56 (p' := .fin) (eE := E25) (H' := (mkH [⟨[.int .i64 x3_0.1.f0, .str x3_0.1.f1, .int .i64 x3_0.1.f2], 3, false⟩])) (by kernel_rfl) ?_
  exact oT (r := false) (xs := [.bool false]) (v := .bool false) (by kernel_rfl) (by kernel_rfl) (by kernel_rfl) (.pures (by kernel_rfl)) (by kernel_rfl)
end
end Go.Proofs.Ytokcjgjgojlhbaa.Am
set_option maxRecDepth 100000
set_option linter.unusedVariables false
set_option linter.unusedSimpArgs false
namespace Go.Proofs.Ytokcjgjgojlhbaa.Am
open Go
theorem eqL_same (l : List Nat) : eqL l l = true := (eqL_iff l l).2 rfl
theorem told6 (k : Nat) : g10 (k + 60) = some true := by kernel_rfl
end Go.Proofs.Ytokcjgjgojlhbaa.Am
set_option maxRecDepth 100000
set_option linter.unusedVariables false
set_option linter.unusedSimpArgs false
namespace Go.Proofs.Ytokcjgjgojlhbaa.Am
open Go
def macB (t : List Nat) : Bool := match t with | c :: _ => decide (begN c = 1 ∨ begN c = 2) | [] => false
theorem begN_le (c : Nat) : begN c ≤ 3 := by
 unfold begN; repeat' split
 all_goals omega
theorem trmN_take (t : List Nat) (n : Nat) : ∀ i, i ≤ n → trmN (t.take n) i = trmN t i
 | 0, _ => rfl
 | i + 1, h => by
  have ih := trmN_take t n i (by omega)
  simp only [trmN, ih]
  rcases Nat.lt_or_ge i t.length with hi | hi
  ·obtain ⟨c, r, hc, hr, hm, hrl⟩ := dcons hi
   rw [hc, List.drop_take, hc, show n - i = (n - i - 1) + 1 by omega, List.take_succ_cons]
  ·rw [dnil hi, dnil (by rw [List.length_take]; omega)]
theorem trmN_pos {c : Nat} {r : List Nat} (h : blkN c = false) : ∀ i, 1 ≤ i → 1 ≤ trmN (c :: r) i
 | 0, h1 => absurd h1 (by decide)
 | i + 1, _ => by
  simp only [trmN]
  cases i with
  | zero => simp only [List.drop_zero, h, Bool.false_eq_true, if_false]; exact Nat.le_refl _
  | succ i =>
   have := trmN_pos (r := r) h (i + 1) (by omega)
   split
   ·split <;> omega
   ·omega
theorem lineN_no10 : ∀ s : List Nat, 10 ∉ s.take (lineN s)
 | [], h => by simp at h
 | c :: r, h => by
  simp only [lineN] at h
  split at h
  ·simp at h
  ·rw [List.take_succ_cons] at h
   rcases List.mem_cons.1 h with e | e
   ·rename_i hc; exact hc e.symm
   ·exact lineN_no10 r e
theorem cmtN_pos (r : List Nat) : 1 ≤ cmtN (37 :: r) := by
 unfold cmtN
 exact trmN_pos (by decide) _ (by simp [lineN])
theorem rtrm_l (k : Nat) {u : List Nat} (hl : Sz u) (h10 : 10 ∉ u) : ∀ (i f : Nat), i < f → i ≤ u.length → g21_l2 k u f (i : Int) = some (u.take (trmN u i))
 | 0, f, hf, hi => by
  obtain ⟨f, rfl⟩ : ∃ f', f = f' + 1 := ⟨f - 1, by omega⟩
  rw [g21_l2_s]
  refine (jS (v := (false, (0 : Int))) (fun j => rfl)).trans ?_
  refine iF rfl ?_
  refine bS (by (try simp (disch := omega) only [fwI]); exact subTo (s := u) (x := (0 : Int)) (i := 0) rfl (Nat.zero_le _)) ?_
  rfl
 | i + 1, f, hf, hi => by
  have hl' := hl
  unfold Sz at hl
  obtain ⟨f, rfl⟩ : ∃ f', f = f' + 1 := ⟨f - 1, by omega⟩
  rw [g21_l2_s]
  obtain ⟨c, r, hc, hr, hm, hrl⟩ := dcons (s := u) (i := i) (by omega)
  have nc := nthX (x := (i : Int)) rfl hc
  have c10 : c ≠ 10 := fun h => h10 (h ▸ hm)
  have ih := rtrm_l k hl' h10 i f (by omega) (by omega)
  rw [fw_p (by omega)]
  refine (jS (v := (blkN c, ((i + 1 : Nat) : Int))) (fun j => ?_)).trans ?_
  ·refine iT (dT (by omega)) ?_
   refine bS (by (try simp (disch := omega) only [fwI]); exact nc) ?_
   unfold blkN
   rw [decide_eq_false c10]
   by_cases h1 : c = 32
   ·refine iT (dT (by omega)) ?_
    rw [decide_eq_true h1]; rfl
   refine iF (dF (by omega)) ?_
   refine bS (by (try simp (disch := omega) only [fwI]); exact nc) ?_
   rw [decide_eq_false h1]
   by_cases h2 : c = 9
   ·refine iT (dT (by omega)) ?_
    rw [decide_eq_true h2]; rfl
   refine iF (dF (by omega)) ?_
   refine bS (by (try simp (disch := omega) only [fwI]); exact nc) ?_
   rw [decide_eq_false h2]
   have : decide ((c : Int) = 13) = decide (c = 13) := by rw [Bool.eq_iff_iff]; simp; omega
   rw [this]; rfl
  ·simp only [trmN, hc]
   cases blkN c with
   | true =>
    refine iT rfl ?_
    show g21_l2 k u f (fW .i64 (((i + 1 : Nat) : Int) - 1)) = _
    rw [fw_p (by omega)]
    exact ih
   | false =>
    refine iF rfl ?_
    refine bS (by (try simp (disch := omega) only [fwI]); exact subTo (s := u) (x := ((i + 1 : Nat) : Int)) (i := i + 1) rfl hi) ?_
    rfl
theorem rtrm_at {k : Nat} {u : List Nat} (hk : u.length < k) (hl : Sz u) (h10 : 10 ∉ u) : g21 k u = some (u.take (trmN u u.length)) := rtrm_l k hl h10 u.length k hk (Nat.le_refl _)
theorem rnote_l {k : Nat} {s : List Nat} (hk : s.length < k) (hs : By s) (hl : Sz s) {a : Nat} {t : List Nat} (ha : s.drop a = 37 :: t) : ∀ (f i : Nat), s.length < i + f → i ≤ s.length → i + lineN (s.drop i) = a + lineN (s.drop a) → a ≤ i → g15_l18 k s (a : Int) f (i : Int) = some (mkTok s (11, a, cmtN (s.drop a)), 0)
 | 0, i, h, h2, h3, h4 => by omega
 | f + 1, i, h, h2, h3, h4 => by
  have hl' := hl
  unfold Sz at hl
  rw [g15_l18_s]
  have fin : i = a + lineN (s.drop a) → (subL s (some (a : Int)) (some (i : Int))).bind (fun x16_3 => (g21 k x16_3).bind fun x16_4 => some ((⟨(11 : Int), x16_4, (a : Int)⟩ : S28), (0 : Int))) = some (mkTok s (11, a, cmtN (s.drop a)), 0) := by
   intro hi
   have ll := lineN_le (s.drop a)
   rw [List.length_drop] at ll
   refine bS (by (try simp (disch := omega) only [fwI]); exact subMid (s := s) (i := a) (j := i) rfl rfl h4 h2) ?_
   rw [List.drop_take, show i - a = lineN (s.drop a) by omega]
   have ul : ((s.drop a).take (lineN (s.drop a))).length = lineN (s.drop a) := by rw [List.length_take, List.length_drop]; omega
   refine bS (by (try simp (disch := omega) only [fwI]); exact rtrm_at (k := k) (u := (s.drop a).take (lineN (s.drop a))) (by rw [ul]; omega) (by unfold Sz; rw [ul]; omega) (lineN_no10 _)) ?_
   rw [ul, trmN_take _ _ _ (Nat.le_refl _), List.take_take, Nat.min_eq_left (trmN_le _ _)]
   rfl
  rcases Nat.lt_or_ge i s.length with hi | hi
  ·obtain ⟨c, r, hc, hr, hm, hrl⟩ := dcons hi
   have nc := nthX (x := (i : Int)) rfl hc
   have h3' := h3
   rw [hc] at h3
   simp only [lineN] at h3
   refine (jS (v := (!decide (c = 10), (i : Int))) (fun j => ?_)).trans ?_
   ·refine iT (dT (by omega)) ?_
    refine bS (by (try simp (disch := omega) only [fwI]); exact nc) ?_
    congr 2
    rw [Bool.eq_iff_iff]; simp; omega
   ·by_cases h10 : c = 10
    ·rw [decide_eq_true h10]
     rw [if_pos h10] at h3
     refine iF rfl ?_
     exact fin (by omega)
    ·rw [decide_eq_false h10]
     rw [if_neg h10] at h3
     refine iT rfl ?_
     have e : ∀ _ : Unit, fW .i64 ((i : Int) + 1) = ((i + 1 : Nat) : Int) := fun _ => fw_s (by omega)
     have ih := rnote_l hk hs hl' ha f (i + 1) (by omega) (by omega) (by rw [hr]; omega) (by omega)
     show g15_l18 k s (a : Int) f (fW .i64 ((i : Int) + 1)) = _
     rw [e ()]
     exact ih
  ·refine (jS (v := (false, (i : Int))) (fun j => ?_)).trans ?_
   ·refine iF (dF (by omega)) rfl
   ·refine iF rfl ?_
    rw [dnil hi] at h3
    exact fin (by simpa [lineN] using h3)
theorem rOne_at {k : Nat} {s : List Nat} (hk : s.length + 40 < k) (hs : By s) (hl : Sz s) {a : Nat} (ha : a < s.length) : g15 k s (a : Int) = some (oneAt s a) := by
 have hl' := hl
 unfold Sz at hl
 unfold g15 oneAt
 refine (jS (v := false) (fun j => by simp (disch := omega) only [↓reduceIte, ↓jn, gsL])).trans ?_
 refine iF rfl ?_
 obtain ⟨c, r, hc, hr, hm, hrl⟩ := dcons ha
 have c256 := hs c hm
 have nc := nthX (x := (a : Int)) rfl hc
 have ol := oneN_le (s.drop a)
 rw [List.length_drop] at ol
 refine bS (by (try simp (disch := omega) only [fwI]); exact nc) ?_
 by_cases h37 : c = 37
 ·subst h37
  refine iT rfl ?_
  have e : oneN (s.drop a) = (cmtN (s.drop a), 11) := by rw [hc]; rfl
  rw [e, if_neg (by rw [hc]; have := cmtN_pos r; show ¬ cmtN (37 :: r) = 0; omega)]
  exact rnote_l (by omega) hs hl' hc k a (by omega) (by omega) rfl (Nat.le_refl _)
 refine iF (dF (by omega)) ?_
 have out : ∀ (n kind : Nat), n ≤ s.length - a → (if decide ((n : Int) = 0) then some (tok0, (4 : Int)) else (subL s (some (a : Int)) (some (fW .i64 ((a : Int) + (n : Int))))).bind fun x14_6 => some ((⟨(kind : Int), x14_6, (a : Int)⟩ : S28), (0 : Int))) = some (if n = 0 then (tok0, 4) else (mkTok s (kind, a, n), 0)) := by
  intro n kind hn
  by_cases h0 : n = 0
  ·rw [if_pos h0]
   refine iT (dT (by omega)) rfl
  ·rw [if_neg h0]
   refine iF (dF (by omega)) ?_
   rw [fw_a (by omega) (by omega)]
   refine bS (by (try simp (disch := omega) only [fwI]); exact subMid (s := s) (i := a) (j := a + n) rfl rfl (by omega) (by omega)) ?_
   rw [List.drop_take, Nat.add_sub_cancel_left]; rfl
 have isD : ∀ _ : Unit, (∀ (j : Bool → Option (S28 × Int)), (if (decide ((c : Int) = 46)) then (if (decide (fW .i64 ((a : Int) + 1) = (s.length : Int))) then (j true) else ((nthS s (fW .i64 ((a : Int) + 1))).bind fun x1_12 => if (decide (x1_12 = 37)) then (j true) else ((g17 k s (fW .i64 ((a : Int) + 1))).bind fun x1_19 => j (decide (fW .i64 ((a : Int) + 1) < x1_19))))) else (j false)) = j (decide (c = 46) && dotN r)) := by
  intro _ j
  by_cases h46 : c = 46
  ·rw [decide_eq_true h46, Bool.true_and]
   refine iT (dT (by omega)) ?_
   rw [fw_s (by omega)]
   cases r with
   | nil =>
    simp only [List.length_nil] at hrl
    refine iT (dT (by omega)) rfl
   | cons d q =>
    simp only [List.length_cons] at hrl
    have nd := nthX (x := ((a + 1 : Nat) : Int)) rfl hr
    refine iF (dF (by omega)) ?_
    refine bS (by (try simp (disch := omega) only [fwI]); exact nd) ?_
    simp only [dotN]
    by_cases h37 : d = 37
    ·refine iT (dT (by omega)) ?_
     rw [decide_eq_true h37, Bool.or_true]
    ·refine iF (dF (by omega)) ?_
     have rb := rblank_at (k := k) (by omega) hs hl' (a := a + 1) (by omega)
     rw [hr] at rb
     refine bS (by (try simp (disch := omega) only [fwI]); exact rb) ?_
     rw [decide_eq_false h37, Bool.or_false]
     refine congrArg j ?_
     by_cases hb : blkN d = true
     ·have e : skipN (d :: q) = skipN q + 1 := by simp only [skipN, hb, if_true]
      rw [hb]; exact decide_eq_true (by omega)
     ·have e : skipN (d :: q) = 0 := by simp only [skipN, if_neg hb]
      rw [Bool.eq_false_iff.2 hb]; exact decide_eq_false (by omega)
  ·rw [decide_eq_false h46, Bool.false_and]
   refine iF (dF (by omega)) rfl
 have eo : oneN (s.drop a) = if c = 46 ∧ dotN r = true then (1, 10) else if c = 39 then (qtdN (s.drop a), 1) else if c = 34 then (qtdN (s.drop a), 6) else if c = 36 then (chrN (s.drop a), 5) else if c = 63 then (macN (s.drop a), 7)
  else if begN c = 3 then numN (s.drop a) else if begN c = 1 ∨ begN c = 2 then (innN (s.drop a), if rsvN ((s.drop a).take (innN (s.drop a))) then 8 else begN c) else (lngN (s.drop a), 9) := by
  rw [hc]; simp only [oneN]; rw [if_neg h37]
 refine (jS (v := decide (c = 46) && dotN r) (fun j => isD () j)).trans ?_
 clear isD
 have il := innN_le (s.drop a)
 rw [List.length_drop] at il
 by_cases h46 : c = 46 ∧ dotN r = true
 ·rw [if_pos h46] at eo
  rw [eo] at ol ⊢
  obtain ⟨h1, h2⟩ := h46
  rw [decide_eq_true h1, h2]
  refine (jS (v := (((10 : Nat) : Int), ((1 : Nat) : Int))) (fun j => iT (Bool.and_self true) (congrArg j (Prod.ext rfl rfl)))).trans ?_
  exact out 1 10 ol
 ·rw [if_neg h46] at eo
  have : (decide (c = 46) && dotN r) = false := by
   rw [Bool.and_eq_false_iff]
   by_cases h : c = 46
   ·right
    cases hd : dotN r with
    | true => exact absurd ⟨h, hd⟩ h46
    | false => rfl
   ·left; exact decide_eq_false h
  rw [this]
  have bg := begins_at22 k c256
  have nodig : (c = 39 ∨ c = 34 ∨ c = 36 ∨ c = 63) → begN c = 0 := by rintro (rfl | rfl | rfl | rfl) <;> decide
  by_cases h39 : c = 39
  ·rw [if_pos h39] at eo
   rw [eo] at ol ⊢
   subst h39
   refine (jS (v := (((1 : Nat) : Int), (qtdN (s.drop a) : Int))) (fun j => ?_)).trans ?_
   ·refine iF rfl ?_
    refine bS (by (try simp (disch := omega) only [fwI]); exact bg) ?_
    refine iF rfl ?_
    refine bS (by (try simp (disch := omega) only [fwI]); exact bg) ?_
    refine iF rfl ?_
    refine iT rfl ?_
    refine bS (by (try simp (disch := omega) only [fwI]); exact rquoted_at (by omega) hs hl' hc (.inl rfl)) ?_
    rfl
   ·exact out _ 1 ol
  rw [if_neg h39] at eo
  by_cases h34 : c = 34
  ·rw [if_pos h34] at eo
   rw [eo] at ol ⊢
   subst h34
   refine (jS (v := (((6 : Nat) : Int), (qtdN (s.drop a) : Int))) (fun j => ?_)).trans ?_
   ·refine iF rfl ?_
    refine bS (by (try simp (disch := omega) only [fwI]); exact bg) ?_
    refine iF rfl ?_
    refine bS (by (try simp (disch := omega) only [fwI]); exact bg) ?_
    refine iF rfl ?_
    refine iF rfl ?_
    refine iT rfl ?_
    refine bS (by (try simp (disch := omega) only [fwI]); exact rquoted_at (by omega) hs hl' hc (.inr rfl)) ?_
    rfl
   ·exact out _ 6 ol
  rw [if_neg h34] at eo
  by_cases h36 : c = 36
  ·rw [if_pos h36] at eo
   rw [eo] at ol ⊢
   subst h36
   refine (jS (v := (((5 : Nat) : Int), (chrN (s.drop a) : Int))) (fun j => ?_)).trans ?_
   ·refine iF rfl ?_
    refine bS (by (try simp (disch := omega) only [fwI]); exact bg) ?_
    refine iF rfl ?_
    refine bS (by (try simp (disch := omega) only [fwI]); exact bg) ?_
    refine iF rfl ?_
    refine iF rfl ?_
    refine iF rfl ?_
    refine iT rfl ?_
    refine bS (by (try simp (disch := omega) only [fwI]); exact rchar_at (by omega) hs hl' hc) ?_
    rfl
   ·exact out _ 5 ol
  rw [if_neg h36] at eo
  by_cases h63 : c = 63
  ·rw [if_pos h63] at eo
   rw [eo] at ol ⊢
   subst h63
   have mac : ∀ (n : Nat) (t : List Nat) (j : Int × Int → Option (S28 × Int)), a + n ≤ s.length → s.drop (a + n) = t →
    jn (fun (z23 : Bool) => if z23 then ((g24 k s ((a + n : Nat) : Int)).bind fun x13_2 => j (7, fW .i64 (x13_2 - (a : Int)))) else (j (0, 0))) (fun j23 => if (decide (((a + n : Nat) : Int) < (s.length : Int))) then ((nthS s ((a + n : Nat) : Int)).bind fun x12_7 => (g28 k x12_7).bind fun x12_8 => if x12_8 then (j23 true) else ((nthS s ((a + n : Nat) : Int)).bind fun x12_12 => j23 (decide (x12_12 = 95)))) else (j23 false)) = j (if macB t then (7, (mac1 n t : Int)) else (0, 0)) := by
    intro n t j hn ht
    rcases Nat.lt_or_ge (a + n) s.length with h | h
    ·obtain ⟨d, q, hd, hq, hdm, hql⟩ := dcons h
     rw [ht] at hd
     subst hd
     have nd := nthX (x := ((a + n : Nat) : Int)) rfl ht
     have lt := letter_at k (hs d hdm)
     have lb : (letN d || decide (d = 95)) = decide (begN d = 1 ∨ begN d = 2) := by
      have w := byteAll (f := fun d => (letN d || decide (d = 95)) == decide (begN d = 1 ∨ begN d = 2)) (by decide +kernel) (hs d hdm)
      exact eq_of_beq w
     refine (jS (v := decide (begN d = 1 ∨ begN d = 2)) (fun j23 => ?_)).trans ?_
     ·refine iT (dT (by omega)) ?_
      refine bS (by (try simp (disch := omega) only [fwI]); exact nd) ?_
      refine bS (by (try simp (disch := omega) only [fwI]); exact lt) ?_
      rw [← lb]
      cases letN d with
      | true => rfl
      | false =>
       refine iF rfl ?_
       refine bS (by (try simp (disch := omega) only [fwI]); exact nd) ?_
       rw [Bool.false_or]
       refine congrArg j23 ?_
       rw [Bool.eq_iff_iff]; simp; omega
     ·by_cases hb : begN d = 1 ∨ begN d = 2
      ·have mb : macB (d :: q) = true := decide_eq_true hb
       rw [decide_eq_true hb, mb]
       refine iT rfl ?_
       have ri := rinner_at (k := k) (by omega) hs hl' (a := a + n) hn
       rw [ht] at ri
       refine bS (by (try simp (disch := omega) only [fwI]); exact ri) ?_
       have il := innN_le (d :: q)
       simp only [List.length_cons] at il
       rw [fwI (by omega) (by omega)]
       simp only [mac1, if_pos hb, if_true]
       refine congrArg j (Prod.ext rfl ?_)
       show ((_ : Nat) : Int) - (a : Int) = ((_ : Nat) : Int)
       omega
      ·have mb : macB (d :: q) = false := decide_eq_false hb
       rw [decide_eq_false hb, mb]
       rfl
    ·rw [dnil h] at ht
     subst ht
     refine (jS (v := false) (fun j23 => ?_)).trans ?_
     ·refine iF (dF (by omega)) rfl
     ·rfl
   have fin : ∀ (n : Nat) (t : List Nat) (X : (Int × Int → Option (S28 × Int)) → Option (S28 × Int)), macN (s.drop a) = mac1 n t → (∀ j, X j = j (if macB t then (7, (mac1 n t : Int)) else (0, 0))) →
    jn (fun (z20 : Int × Int) => if (decide (z20.2 = 0)) then (some ((⟨(0 : Int), ([] : List Nat), (0 : Int)⟩ : S28), (4 : Int))) else ((subL s (some (a : Int)) (some (fW .i64 ((a : Int) + z20.2)))).bind fun x14_6 => some ((⟨z20.1, x14_6, (a : Int)⟩ : S28), (0 : Int)))) X = some (if (macN (s.drop a), 7).1 = 0 then (tok0, 4) else (mkTok s ((macN (s.drop a), 7).2, a, (macN (s.drop a), 7).1), 0)) := by
    intro n t X hm hX
    rw [hm] at ol ⊢
    cases h : macB t with
    | false =>
     rw [h] at hX
     have m0 : mac1 n t = 0 := by
      cases t with
      | nil => rfl
      | cons d q => simp only [mac1, if_neg (of_decide_eq_false h)]
     refine (jS hX).trans ?_
     rw [m0]; rfl
    | true =>
     rw [h] at hX
     refine (jS hX).trans ?_
     exact out _ 7 ol
   cases r with
   | nil =>
    simp only [List.length_nil] at hrl
    refine fin 1 [] _ (by rw [hc]; rfl) (fun j => ?_)
    refine iF rfl ?_
    refine bS (by (try simp (disch := omega) only [fwI]); exact bg) ?_
    refine iF rfl ?_
    refine bS (by (try simp (disch := omega) only [fwI]); exact bg) ?_
    refine iF rfl ?_
    refine iF rfl ?_
    refine iF rfl ?_
    refine iF rfl ?_
    refine iT rfl ?_
    refine (jS (v := false) (fun j => ?_)).trans ?_
    ·refine iF (dF (by rw [fw_s (by omega)]; omega)) rfl
    ·refine (jS (v := ((a + 1 : Nat) : Int)) (fun j => ?_)).trans ?_
     ·refine iF rfl ?_
      rw [fw_s (by omega)]
     ·exact mac 1 [] j (by omega) hr
   | cons d q =>
    simp only [List.length_cons] at hrl
    have nd := nthX (x := ((a + 1 : Nat) : Int)) rfl hr
    by_cases hd : d = 63
    ·refine fin 2 q _ (by rw [hc]; simp only [macN, hd, if_true]) (fun j => ?_)
     refine iF rfl ?_
     refine bS (by (try simp (disch := omega) only [fwI]); exact bg) ?_
     refine iF rfl ?_
     refine bS (by (try simp (disch := omega) only [fwI]); exact bg) ?_
     refine iF rfl ?_
     refine iF rfl ?_
     refine iF rfl ?_
     refine iF rfl ?_
     refine iT rfl ?_
     refine (jS (v := true) (fun j => ?_)).trans ?_
     ·rw [fw_s (by omega)]
      refine iT (dT (by omega)) ?_
      refine bS (by (try simp (disch := omega) only [fwI]); exact nd) ?_
      rw [dT (by omega)]
     ·refine (jS (v := ((a + 2 : Nat) : Int)) (fun j => ?_)).trans ?_
      ·refine iT rfl ?_
       rw [fw_s (by omega), fw_s (by omega)]
      ·exact mac 2 q j (by omega) (drop_step hr)
    ·refine fin 1 (d :: q) _ (by rw [hc]; simp only [macN, hd, if_false]) (fun j => ?_)
     refine iF rfl ?_
     refine bS (by (try simp (disch := omega) only [fwI]); exact bg) ?_
     refine iF rfl ?_
     refine bS (by (try simp (disch := omega) only [fwI]); exact bg) ?_
     refine iF rfl ?_
     refine iF rfl ?_
     refine iF rfl ?_
     refine iF rfl ?_
     refine iT rfl ?_
     refine (jS (v := false) (fun j => ?_)).trans ?_
     ·rw [fw_s (by omega)]
      refine iT (dT (by omega)) ?_
      refine bS (by (try simp (disch := omega) only [fwI]); exact nd) ?_
      rw [dF (by omega)]
     ·refine (jS (v := ((a + 1 : Nat) : Int)) (fun j => ?_)).trans ?_
      ·refine iF rfl ?_
       rw [fw_s (by omega)]
      ·exact mac 1 (d :: q) j (by omega) hr
  rw [if_neg h63] at eo
  by_cases h3 : begN c = 3
  ·rw [if_pos h3] at eo
   rw [eo] at ol ⊢
   refine jC fun j => ?_
   refine iF rfl ?_
   refine bS (by (try simp (disch := omega) only [fwI]); exact bg) ?_
   refine iT (dT (by omega)) ?_
   refine bS (by (try simp (disch := omega) only [fwI]); exact rnumber_at (by omega) hs hl' (a := a) (by omega)) ?_
   by_cases h0 : (numN (s.drop a)).1 = 0
   ·rw [if_pos h0]
   ·rw [if_neg h0]
  rw [if_neg h3] at eo
  by_cases h12 : begN c = 1 ∨ begN c = 2
  ·rw [if_pos h12] at eo
   rw [eo] at ol ⊢
   refine (jS (v := (((if rsvN ((s.drop a).take (innN (s.drop a))) then 8 else begN c : Nat) : Int), (innN (s.drop a) : Int))) (fun j => ?_)).trans ?_
   ·refine iF rfl ?_
    refine bS (by (try simp (disch := omega) only [fwI]); exact bg) ?_
    refine iF (dF (by omega)) ?_
    refine bS (by (try simp (disch := omega) only [fwI]); exact bg) ?_
    refine iT (dT (by omega)) ?_
    refine bS (by (try simp (disch := omega) only [fwI]); exact bg) ?_
    refine bS (by (try simp (disch := omega) only [fwI]); exact rinner_at (k := k) (by omega) hs hl' (a := a) (by omega)) ?_
    rw [fw_d (n := a + innN (s.drop a)) (m := a) (by omega) (by omega), Nat.add_sub_cancel_left, fw_a (by omega) (by omega)]
    refine bS (by (try simp (disch := omega) only [fwI]); exact subMid (s := s) (i := a) (j := a + innN (s.drop a)) rfl rfl (by omega) (by omega)) ?_
    rw [List.drop_take, Nat.add_sub_cancel_left]
    refine bS (by (try simp (disch := omega) only [fwI]); exact rreserved_at (by omega) _) ?_
    cases rsvN ((s.drop a).take (innN (s.drop a))) <;> rfl
   ·exact out _ _ il
  ·rw [if_neg h12] at eo
   rw [eo] at ol ⊢
   refine (jS (v := (((9 : Nat) : Int), (lngN (s.drop a) : Int))) (fun j => ?_)).trans ?_
   ·refine iF rfl ?_
    refine bS (by (try simp (disch := omega) only [fwI]); exact bg) ?_
    refine iF (dF (by omega)) ?_
    refine bS (by (try simp (disch := omega) only [fwI]); exact bg) ?_
    refine iF (dF (by have := begN_le c; omega)) ?_
    refine iF (dF (by omega)) ?_
    refine iF (dF (by omega)) ?_
    refine iF (dF (by omega)) ?_
    refine iF (dF (by omega)) ?_
    refine bS (by (try simp (disch := omega) only [fwI]); exact rlongest_at (k := k) (by omega) hl' (a := a) (by omega)) ?_
    rfl
   ·exact out _ 9 ol
end Go.Proofs.Ytokcjgjgojlhbaa.Am
set_option maxRecDepth 100000
set_option linter.unusedVariables false
set_option linter.unusedSimpArgs false
namespace Go.Proofs.Ytokcjgjgojlhbaa.Am
open Go
theorem rscan_l (k : Nat) {s : List Nat} (hk : s.length + 40 < k) (hs : By s) (hl : Sz s) (h16 : s.length ≤ 65536) : ∀ (d f a : Nat) (acc : List S28), s.length < a + d → d < f → a ≤ s.length → acc.length ≤ a → g12_l5 k s f ((a + skipN (s.drop a) : Nat) : Int) acc = some (match toksN s d a with | some l => (acc ++ l.map (mkTok s), 0) | none => ([], 4))
 | 0, f, a, acc, h, hf, ha, hacc => by omega
 | d + 1, f, a, acc, h, hf, ha, hacc => by
  have hl' := hl
  unfold Sz at hl
  obtain ⟨f, rfl⟩ : ∃ f', f = f' + 1 := ⟨f - 1, by omega⟩
  rw [g12_l5_s]
  have sl := skipN_le (s.drop a)
  rw [List.length_drop] at sl
  unfold toksN
  have hab : a ≤ a + skipN (s.drop a) := Nat.le_add_right _ _
  have hbl : a + skipN (s.drop a) ≤ s.length := by omega
  generalize a + skipN (s.drop a) = b at *
  by_cases hb : s.length ≤ b
  ·rw [if_pos hb]
   refine iF (dF (by omega)) ?_
   simp only [List.map_nil, List.append_nil]
  ·rw [if_neg hb]
   refine iT (dT (by omega)) ?_
   refine bS (by (try simp (disch := omega) only [fwI]); exact rOne_at hk hs hl' (a := b) (by omega)) ?_
   have ol := oneN_le (s.drop b)
   rw [List.length_drop] at ol
   unfold oneAt
   by_cases h0 : (oneN (s.drop b)).1 = 0
   ·rw [if_pos h0, if_pos h0]; rfl
   ·rw [if_neg h0, if_neg h0]
    refine iF rfl ?_
    have ap : appS 32 acc [mkTok s ((oneN (s.drop b)).2, b, (oneN (s.drop b)).1)] = some (acc ++ [mkTok s ((oneN (s.drop b)).2, b, (oneN (s.drop b)).1)]) := by
     unfold appS
     rw [if_pos (by simp only [List.length_cons, List.length_nil]; omega)]
    refine bS (by (try simp (disch := omega) only [fwI]); exact ap) ?_
    have tl : ((s.drop b).take (oneN (s.drop b)).1).length = (oneN (s.drop b)).1 := by
     rw [List.length_take, List.length_drop]; omega
    show (g17 k s (fW .i64 ((b : Int) + (((s.drop b).take (oneN (s.drop b)).1).length : Int)))).bind _ = _
    rw [tl, fw_a (by omega) (by omega)]
    have hpos : 0 < (oneN (s.drop b)).1 := Nat.pos_of_ne_zero h0
    refine bS (by (try simp (disch := omega) only [fwI]); exact rblank_at (by omega) hs hl' (a := b + (oneN (s.drop b)).1) (by omega)) ?_
    refine (rscan_l k hk hs hl' h16 d f (b + (oneN (s.drop b)).1) _ (by omega) (by omega) (by omega) (by rw [List.length_append]; simp only [List.length_cons, List.length_nil]; omega)).trans ?_
    cases toksN s d (b + (oneN (s.drop b)).1) with
    | none => rfl
    | some l => simp only [Option.map_some, List.map_cons, List.append_assoc, List.singleton_append]
theorem rscan_at {k : Nat} {s : List Nat} (hk : s.length + 40 < k) (hs : By s) (hl : Sz s) : g12 k s = some (scanN s) := by
 have hl' := hl
 unfold Sz at hl
 unfold g12 scanN
 by_cases h16 : 65536 < s.length
 ·rw [if_pos h16]
  refine iT (dT (by omega)) rfl
 ·rw [if_neg h16]
  refine iF (dF (by omega)) ?_
  refine bS (by (try simp (disch := omega) only [fwI]); exact valid_at19 (by omega) hs hl') ?_
  cases hv : vld s.length s with
  | false => rfl
  | true =>
   refine iF rfl ?_
   have rb := rblank_at (k := k) (by omega) hs hl' (a := 0) (by omega)
   refine bS (by (try simp (disch := omega) only [fwI]); exact rb) ?_
   refine (rscan_l k hk hs hl' (by omega) (s.length + 1) k 0 [] (by omega) (by omega) (by omega) (Nat.le_refl _)).trans ?_
   simp only [Bool.true_eq_false, if_false]
   cases toksN s (s.length + 1) 0 <;> rfl
end Go.Proofs.Ytokcjgjgojlhbaa.Am
set_option maxRecDepth 100000
set_option linter.unusedVariables false
namespace Go.Proofs.Ytokcjgjgojlhbaa.Am
noncomputable section
open Go
def X9 : Fx Bool := ⟨Try.prog, cx, Try.f9, fun r => .bool r, 0, fun _ => H0, cxTi, cxOrd⟩
def g9p0 : Pt := nav [0] (bodyAt Try.f9)
def g9p1 : Pt := nav [0, 0, 0, 0] g9p0
def g9p2 : Pt := nav [0, 0] g9p1
def g9p3 : Pt := nav [1, 0] g9p2
def g9p4 : Pt := nav [2, 0, 0] g9p2
def g9p6 : Pt := nav [0, 0, 0, 0] g9p4
def g9p7 : Pt := nav [0, 0] g9p6
def g9p9 : Pt := nav [2, 0, 0] g9p7
def g9p10 : Pt := nav [0, 0, 0, 0] g9p9
def g9p11 : Pt := nav [0, 0, 0, 0] g9p10
def g9p12 : Pt := nav [0, 0, 0] g9p11
def g9p13 : Pt := nav [0, 0] g9p12
def g9p14 : Pt := nav [1, 0, 0, 0, 0] g9p13
def g9p15 : Pt := nav [2, 0, 0] g9p13
def g9p16 : Pt := nav [0, 0, 0, 0] g9p14
def g9p17 : Pt := nav [0, 0, 0] g9p15
def g9p18 : Pt := nav [0, 0] g9p16
def g9p19 : Pt := nav [0, 0, 0] g9p17
def g9p20 : Pt := nav [1, 0] g9p18
def g9p21 : Pt := nav [2, 0, 0, 0] g9p18
def g9p22 : Pt := nav [0, 0, 0] g9p19
def g9p23 : Pt := nav [0, 0] g9p21
def g9p24 : Pt := nav [1] g9p23
def g9p25 : Pt := nav [2, 0] g9p23
def g9_l10 (k : Nat)  (a0 : (List Int)) (z9 : (List Nat) × Int) (n : Nat) : (List Nat) → Int → Option Bool :=
 Nat.rec (motive := fun _ => (List Nat) → Int → Option Bool) (fun _ _ => none) (fun _ ih => fun (y10_0 : (List Nat)) (y10_1 : Int) => if (decide (y10_1 < (a0.length : Int))) then ((nthL a0 y10_1).bind fun x1_2 => jn (fun (z11 : (List Nat) × Int) => ih z11.1 (fW .i64 (z11.2 + 1))) (fun j11 => if (decide (fW .i64 (32 + fW .i64 ((fW .u64 x1_2).tmod 53248)) = 127)) then (j11 (y10_0, y10_1)) else ((nthS z9.1 0).bind fun x2_2 => jn (fun (z12 : Bool × (List Nat) × Int) => jn (fun (z13 : (List Nat) × Int) => (catS z13.1 (utf (fW .i32 (fW .i64 (32 + fW .i64 ((fW .u64 x1_2).tmod 53248)))))).bind fun x8_4 => j11 (x8_4, z13.2)) (fun j13 => if z12.1 then ((catS z12.2.1 ([92] : List Nat)).bind fun x7_1 => j13 (x7_1, z12.2.2)) else (j13 (z12.2.1, z12.2.2)))) (fun j12 => if (decide (fW .i64 (32 + fW .i64 ((fW .u64 x1_2).tmod 53248)) = fW .i64 x2_2)) then (j12 (true, y10_0, y10_1)) else (if (decide (fW .i64 (32 + fW .i64 ((fW .u64 x1_2).tmod 53248)) = 92)) then (j12 (true, y10_0, y10_1)) else (j12 (decide (andI .i64 y10_1 3 = 3), y10_0, y10_1))))))) else ((catS y10_0 z9.1).bind fun x3_2 => (catS x3_2 ([32] : List Nat)).bind fun x4_1 => (catS x4_1 x3_2).bind fun x4_3 => (g11 k x4_3).bind fun x4_4 => (g12 k x3_2).bind fun x5_1 => (g10 k).bind fun x6_0 => if x6_0 then (if (decide (x4_4.2 = 0)) then (if (decide (x5_1.2 = 0)) then (if (decide ((x5_1.1.length : Int) = 1)) then (if (decide ((x4_4.1.length : Int) = 2)) then ((nthL x4_4.1 0).bind fun x6_21 => if (decide (x6_21.f0 = z9.2)) then ((nthL x4_4.1 0).bind fun x6_29 => if (eqL x6_29.f1 x3_2) then ((nthL x4_4.1 1).bind fun x6_37 => some (eqL x6_37.f1 x3_2)) else (some false)) else (some false)) else (some false)) else (some false)) else (some false)) else (some false)) else (some false))) n
theorem g9_l10_s (k : Nat)  (a0 : (List Int)) (z9 : (List Nat) × Int) (n : Nat) (y10_0 : (List Nat)) (y10_1 : Int) : g9_l10 k a0 z9 (n + 1) y10_0 y10_1 = (if (decide (y10_1 < (a0.length : Int))) then ((nthL a0 y10_1).bind fun x1_2 => jn (fun (z11 : (List Nat) × Int) => (g9_l10 k a0 z9 n) z11.1 (fW .i64 (z11.2 + 1))) (fun j11 => if (decide (fW .i64 (32 + fW .i64 ((fW .u64 x1_2).tmod 53248)) = 127)) then (j11 (y10_0, y10_1)) else ((nthS z9.1 0).bind fun x2_2 => jn (fun (z12 : Bool × (List Nat) × Int) => jn (fun (z13 : (List Nat) × Int) => (catS z13.1 (utf (fW .i32 (fW .i64 (32 + fW .i64 ((fW .u64 x1_2).tmod 53248)))))).bind fun x8_4 => j11 (x8_4, z13.2)) (fun j13 => if z12.1 then ((catS z12.2.1 ([92] : List Nat)).bind fun x7_1 => j13 (x7_1, z12.2.2)) else (j13 (z12.2.1, z12.2.2)))) (fun j12 => if (decide (fW .i64 (32 + fW .i64 ((fW .u64 x1_2).tmod 53248)) = fW .i64 x2_2)) then (j12 (true, y10_0, y10_1)) else (if (decide (fW .i64 (32 + fW .i64 ((fW .u64 x1_2).tmod 53248)) = 92)) then (j12 (true, y10_0, y10_1)) else (j12 (decide (andI .i64 y10_1 3 = 3), y10_0, y10_1))))))) else ((catS y10_0 z9.1).bind fun x3_2 => (catS x3_2 ([32] : List Nat)).bind fun x4_1 => (catS x4_1 x3_2).bind fun x4_3 => (g11 k x4_3).bind fun x4_4 => (g12 k x3_2).bind fun x5_1 => (g10 k).bind fun x6_0 => if x6_0 then (if (decide (x4_4.2 = 0)) then (if (decide (x5_1.2 = 0)) then (if (decide ((x5_1.1.length : Int) = 1)) then (if (decide ((x4_4.1.length : Int) = 2)) then ((nthL x4_4.1 0).bind fun x6_21 => if (decide (x6_21.f0 = z9.2)) then ((nthL x4_4.1 0).bind fun x6_29 => if (eqL x6_29.f1 x3_2) then ((nthL x4_4.1 1).bind fun x6_37 => some (eqL x6_37.f1 x3_2)) else (some false)) else (some false)) else (some false)) else (some false)) else (some false)) else (some false)) else (some false))) := rfl
end
end Go.Proofs.Ytokcjgjgojlhbaa.Am
