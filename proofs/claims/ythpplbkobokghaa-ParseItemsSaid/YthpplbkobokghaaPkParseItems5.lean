/- LawParseItems, part 5: whatever the input, the law comes out true: our texts, joined by a tool, without what the claim does not name. -/
import Derived.Test.YthpplbkobokghaaPkParseItems4
set_option maxRecDepth 100000
set_option linter.unusedVariables false
set_option linter.unusedSimpArgs false
set_option maxRecDepth 100000
set_option linter.unusedVariables false
namespace Go.Proofs.Ythpplbkobokghaa.Am
noncomputable section
open Go
theorem qJ3 (k : Nat) (F : Fns0) (hF : FnsOk0 F) (a0 : (List Nat)) (a1 : (List S33)) (a2 : Int) (a3 : Int) (r : (Option (S28 × Int))) (h : i38B k F a0 a1 a2 a3 = some r) : CallT Try.prog 102 [.ptr 0 4 0] (mkH [⟨[.str a0, w34 a1, .i a2, .i a3], 4, false⟩]) ((Xi38 a0 a1 a2 a3).thr r) ((Xi38 a0 a1 a2 a3).enc r) ((Xi38 a0 a1 a2 a3).fin r) := by
 refine qA2 (Xi38 a0 a1 a2 a3) Try.func102 (by kernel_rfl) (by kernel_rfl) rfl (t := i38B k F a0 a1 a2 a3) ?_ h
 unfold i38B
 refine qA0 (eE := [(0, .ptr 0 4 0)]) (by kernel_rfl) ?_
 let Q1 : Blk := ⟨[.str a0, w34 a1, .i a2, .i a3], 4, false⟩
 let Q2 : Blk := ⟨[.i 0, .str [], .nils, .bool false, .bool false, .nils, .nils], 0, false⟩
 let Q3 : Blk := ⟨[.i 20, .str [], .nils, .bool false, .bool false, .nils, .nils], 7, false⟩
 refine oH 11 i38p2 [(3, .ptr 2 7 0), (7, .agg [.i 20, .str [], .nils, .bool false, .bool false, .nils, .nils]), (2, .ptr 1 7 0), (0, .ptr 0 4 0)] (mkH [Q1, Q2, Q3]) ?_
 refine qF9 [Q1, Q2, Q3] (by kernel_rfl) ?_
 let Q4 : Blk := ⟨(([] : List S28)).flatMap e29, 0, false⟩
 refine oHp (mkH [Q1, Q2, Q3, Q4]) ?_
 refine qCt [Q1, Q2, Q3, Q4] 2 7 [.i 20, .str [], .nils, .bool false, .bool false, .nils, .nils] [.i 20, .str [], .own 3 (([] : List S28)).length 7, .bool false, .bool false, .nils, .nils] (by kernel_rfl) rfl (.cons (.cons (.none (.refl)))) ?_
 let E1 : Env := [(8, .ptr 0 4 0), (3, .ptr 2 7 0), (7, .agg [.i 20, .str [], .nils, .bool false, .bool false, .nils, .nils]), (2, .ptr 1 7 0), (0, .ptr 0 4 0)]
 let Q5 : Blk := ⟨[.i 20, .str [], .own 3 (([] : List S28)).length 7, .bool false, .bool false, .nils, .nils], 7, false⟩
 refine oH 2 (atN 1 (ctl1 i38p2)) E1 (mkH [Q1, Q2, Q5, Q4]) ?_
 refine oN (fun (x0_1 : Ri12) => w9 x0_1.1) (fun x0_1 => [⟨[.str a0, w34 a1, .i x0_1.2, .i a3], 4, false⟩, Q2, Q5, Q4]) (atN 2 (ctl1 i38p2)) 9 [0] [] [] [.ptr 0 4 0] (qAl k a0 a1 a2 a3) trivial (fun _ => trivial) fun x0_1 hx0_1 => ?_
 refine oR 6 (atN 1 (ctl1 i38p3)) ((10, .ptr 0 4 0) :: (4, w9 x0_1.1) :: (9, w9 x0_1.1) :: E1) ?_
 refine oN (fun (x1_1 : Bool) => .bool x1_1) (fun x1_1 => [⟨[.str a0, w34 a1, .i x0_1.2, .i a3], 4, false⟩, Q2, Q5, Q4]) (atN 2 (ctl1 i38p3)) 11 [0] [] [] [.ptr 0 4 0, .str i38c0] (qGg k i38c0 a0 a1 x0_1.2 a3) trivial (fun _ => trivial) fun x1_1 hx1_1 => ?_
 let E2 : Env := ((12, .bool (!x1_1)) :: (11, .bool x1_1) :: (10, .ptr 0 4 0) :: (4, w9 x0_1.1) :: (9, w9 x0_1.1) :: E1)
 refine oR 2 i38p4 E2 ?_
 refine oS 12 (fun hb => ?_) (fun hb => ?_)
 ·refine oR 7 (atN 4 (ctl1 i38p5)) ((16, .func 100 [.ptr 0 4 0] []) :: (15, .ptr 0 4 0) :: (14, w9 x0_1.1) :: (13, .ptr 0 4 0) :: (12, .bool true) :: E2) ?_
  refine oX (fun (x2_4 : Ri43) => .own 4 (x2_4.2).length 7) (fun x2_4 => [⟨[.str a0, w34 a1, .i x2_4.1, .i a3], 4, false⟩, Q2, Q5, Q4, ⟨(x2_4.2).flatMap e29, 0, false⟩]) (atN 5 (ctl1 i38p5)) 17 [0, 4] [] [0, 1] [0, 2] [0, 0, 0, 1] [.ptr 0 4 0, w9 x0_1.1, .func 100 [.ptr 0 4 0] []] (hF.i43_thr x0_1.1 a0 a1 x0_1.2 a3) (hF.i43_ok x0_1.1 a0 a1 x0_1.2 a3) trivial (fun _ => ⟨u29 _, trivial⟩) ⟨u29 _, trivial⟩ fun x2_4 hx2_4 => ?_
  let Q6 : Blk := ⟨[.i 20, .str [], .own 4 (x2_4.2).length 7, .bool false, .bool false, .nils, .nils], 7, false⟩
  let Q7 : Blk := ⟨(x2_4.2).flatMap e29, 0, false⟩
  refine oLH 3 i38p7 [(0, .ptr 0 4 0), (2, .ptr 1 7 0), (3, .ptr 2 7 0)] (mkH [⟨[.str a0, w34 a1, .i x2_4.1, .i a3], 4, false⟩, Q2, Q6, Q4, Q7]) ?_
  let E4 : Env := [(0, .ptr 0 4 0), (2, .ptr 1 7 0), (3, .ptr 2 7 0)]
  refine oR 2 (atN 1 (ctl1 i38p7)) ((19, .ptr 0 4 0) :: E4) ?_
  refine oN (fun (x3_1 : Ri12) => w9 x3_1.1) (fun x3_1 => [⟨[.str a0, w34 a1, .i x3_1.2, .i a3], 4, false⟩, Q2, Q6, Q4, Q7]) (atN 2 (ctl1 i38p7)) 20 [0] [] [] [.ptr 0 4 0] (qAl k a0 a1 x2_4.1 a3) trivial (fun _ => trivial) fun x3_1 hx3_1 => ?_
  refine oR 6 (atN 1 (ctl1 i38p6)) ((21, .ptr 0 4 0) :: (4, w9 x3_1.1) :: (20, w9 x3_1.1) :: (19, .ptr 0 4 0) :: E4) ?_
  refine oX (fun (x4_1 : (Bool × Int)) => .bool x4_1.1) (fun x4_1 => [⟨[.str a0, w34 a1, .i x4_1.2, .i a3], 4, false⟩, Q2, Q6, Q4, Q7]) (atN 2 (ctl1 i38p6)) 22 [0] [] [] [2] [0, 0, 0, 1, 1] [.ptr 0 4 0, .str i38c0] (qAb k i38c0 a0 a1 x3_1.2 a3) (qAi k i38c0 a0 a1 x3_1.2 a3) trivial (fun _ => trivial) ⟨u29 _, u29 _, trivial⟩ fun x4_1 hx4_1 => ?_
  let E5 : Env := ((22, .bool x4_1.1) :: (21, .ptr 0 4 0) :: (4, w9 x3_1.1) :: (20, w9 x3_1.1) :: (19, .ptr 0 4 0) :: E4)
  refine oR 1 i38p8 E5 ?_
  refine oS 22 (fun hb => ?_) (fun hb => ?_)
  ·refine oR 4 (atN 1 (ctl1 i38p9)) ((23, .ptr 0 4 0) :: (22, .bool true) :: E5) ?_
   refine oX (fun (x5_1 : (S28 × Int)) => n29 x5_1.1) (fun x5_1 => [⟨[.str a0, w34 a1, .i x5_1.2, .i a3], 4, false⟩, Q2, Q6, Q4, Q7]) (atN 2 (ctl1 i38p9)) 24 [0] [] [] [0, 2] [0, 0, 0, 1, 1] [.ptr 0 4 0, .i 1] (hF.i5_thr (1 : Int) a0 a1 x4_1.2 a3) (hF.i5_ok (1 : Int) a0 a1 x4_1.2 a3) trivial (fun _ => trivial) ⟨u29 _, u29 _, trivial⟩ fun x5_1 hx5_1 => ?_
   let Q8 : Blk := ⟨[.str a0, w34 a1, .i x5_1.2, .i a3], 4, false⟩
   refine oH 1 (atN 3 (ctl1 i38p9)) ((25, .slice 5 7 0 1 7) :: (24, n29 x5_1.1) :: (23, .ptr 0 4 0) :: (22, .bool true) :: E5) (mkH [Q8, Q2, Q6, Q4, Q7, ⟨e29 x5_1.1, 0, false⟩]) ?_
   refine oZ 25 5 1 7 [.i x5_1.1.f0, .str x5_1.1.f1, q29 x5_1.1.f2, .bool x5_1.1.f3, .bool x5_1.1.f4, w9 x5_1.1.f5, w9 x5_1.1.f6] [0, 2, 3, 4, 19, 20, 21, 22, 23, 24] [0, 0, 0, 1, 1] ⟨u29 _, u29 _, trivial⟩ ?_
   let E7 : Env := [(0, .ptr 0 4 0), (2, .ptr 1 7 0), (3, .ptr 2 7 0), (4, w9 x3_1.1), (5, .ptr 6 7 0)]
   let Q9 : Blk := ⟨[.i 23, .str [], w29 ([x5_1.1] : List S28), .bool false, .bool false, .nils, .nils], 7, false⟩
   refine oLH 5 i38p11 E7 (mkH [Q8, Q2, Q6, Q4, Q7, ⟨[], 0, false⟩, Q9]) ?_
   refine oR 4 (atN 3 (ctl1 i38p11)) ((29, .agg [.i 24, .str [], .nils, .bool false, .bool false, .nils, .nils]) :: (28, .agg [.i 23, .str [], w29 ([x5_1.1] : List S28), .bool false, .bool false, .nils, .nils]) :: (27, .ptr 0 4 0) :: E7) ?_
   refine oXW 0 [Q8, Q2, Q6, Q4, Q7, ⟨[], 0, false⟩, Q9] (fun (x6_3 : (S28 × Int)) => n29 x6_3.1) (fun x6_3 => [⟨[.str a0, w34 a1, .i x6_3.2, .i a3], 4, false⟩, Q2, Q6, Q4, Q7, ⟨[], 0, false⟩, Q9]) (atN 4 (ctl1 i38p11)) 30 [0] [] [] [0, 2] [0, 0, 0, 1, 1] [0, 0, 0, 1, 1] [.ptr 0 4 0, .str [], .agg [.i 23, .str [], w29 ([x5_1.1] : List S28), .bool false, .bool false, .nils, .nils], .agg [.i 24, .str [], .nils, .bool false, .bool false, .nils, .nils]] [.ptr 0 4 0, .str [], .agg [.i 23, .str [], w29 ([x5_1.1] : List S28), .bool false, .bool false, w9 ([] : List (List Nat)), w9 ([] : List (List Nat))], .agg [.i 24, .str [], w29 ([] : List S28), .bool false, .bool false, w9 ([] : List (List Nat)), w9 ([] : List (List Nat))]] (.cons (.cons (.agg (.cons (.cons (.cons (.cons (.cons (.nil (.nil (.refl)))))))) (.agg (.cons (.cons (.nil (.cons (.cons (.nil (.nil (.refl)))))))) (.refl))))) (hF.i47_thr ([] : List Nat) (23 : Int) ([] : List Nat) (⟨(([x5_1.1] : List S28)).length, (([x5_1.1] : List S28)).flatMap e29⟩ : Raw) false false ([] : List (List Nat)) ([] : List (List Nat)) (24 : Int) ([] : List Nat) (⟨(([] : List S28)).length, (([] : List S28)).flatMap e29⟩ : Raw) false false ([] : List (List Nat)) ([] : List (List Nat)) a0 a1 x5_1.2 a3) (hF.i47_ok ([] : List Nat) (23 : Int) ([] : List Nat) (⟨(([x5_1.1] : List S28)).length, (([x5_1.1] : List S28)).flatMap e29⟩ : Raw) false false ([] : List (List Nat)) ([] : List (List Nat)) (24 : Int) ([] : List Nat) (⟨(([] : List S28)).length, (([] : List S28)).flatMap e29⟩ : Raw) false false ([] : List (List Nat)) ([] : List (List Nat)) a0 a1 x5_1.2 a3) trivial (fun _ => trivial) ⟨u29 _, u29 _, trivial⟩ fun x6_3 hx6_3 => ?_
   let E9 : Env := [(0, .ptr 0 4 0), (2, .ptr 1 7 0), (3, .ptr 2 7 0), (6, .ptr 7 7 0)]
   let Q10 : Blk := ⟨[.str a0, w34 a1, .i x6_3.2, .i a3], 4, false⟩
   let Q11 : Blk := ⟨[.i x6_3.1.f0, .str x6_3.1.f1, q29 x6_3.1.f2, .bool x6_3.1.f3, .bool x6_3.1.f4, w9 x3_1.1, w9 x6_3.1.f6], 7, false⟩
   refine oLH 10 i38p15 E9 (mkH [Q10, Q2, Q6, Q4, Q7, ⟨[], 0, false⟩, Q9, Q11]) ?_
   let Q12 : Blk := ⟨[.i x6_3.1.f0, .str x6_3.1.f1, q29 x6_3.1.f2, .bool x6_3.1.f3, .bool x6_3.1.f4, w9 x3_1.1, w9 x6_3.1.f6], 0, false⟩
   let K1 : List Blk := [Q10, Q2, Q6, Q4, Q7, ⟨[], 0, false⟩, Q9, Q11, Q12]
   refine oH 5 (atN 4 (ctl1 i38p15)) ((36, .slice 8 7 0 1 7) :: (35, .agg [.i x6_3.1.f0, .str x6_3.1.f1, q29 x6_3.1.f2, .bool x6_3.1.f3, .bool x6_3.1.f4, w9 x3_1.1, w9 x6_3.1.f6]) :: (34, .own 4 (x2_4.2).length 7) :: (33, .ptr 2 7 2) :: E9) (mkH K1) ?_
   refine oC (fun (x7_4 : (List S28)) => (.own 4 (x7_4).length 7, (mkH [Q10, Q2, Q6, Q4, ⟨(x7_4).flatMap e29, 0, false⟩, ⟨[], 0, false⟩, Q9, Q11, Q12]))) (atN 5 (ctl1 i38p15)) 37 (appH (sz := 7) qA7 rfl qAx K1 4 104 x2_4.2 ([(⟨x6_3.1.f0, x6_3.1.f1, x6_3.1.f2, x6_3.1.f3, x6_3.1.f4, x3_1.1, x6_3.1.f6⟩ : S28)] : List S28) rfl rfl (by kernel_rfl)) fun x7_4 hx7_4 => ?_
   let E11 : Env := [(0, .ptr 0 4 0), (2, .ptr 1 7 0), (3, .ptr 2 7 0)]
   let Q13 : Blk := ⟨[.i 20, .str i38c0, .own 4 (x7_4).length 7, .bool false, .bool false, .nils, .nils], 7, false⟩
   let Q14 : Blk := ⟨(x7_4).flatMap e29, 0, false⟩
   refine oLH 5 i38p17 E11 (mkH [Q10, Q2, Q13, Q4, Q14, ⟨[], 0, false⟩, Q9, Q11, Q12]) ?_
   refine oR 2 (atN 1 (ctl1 i38p17)) ((40, .ptr 0 4 0) :: E11) ?_
   refine oN (fun (x8_1 : Ri12) => w9 x8_1.1) (fun x8_1 => [⟨[.str a0, w34 a1, .i x8_1.2, .i a3], 4, false⟩, Q2, Q13, Q4, Q14, ⟨[], 0, false⟩, Q9, Q11, Q12]) (atN 2 (ctl1 i38p17)) 41 [0] [] [] [.ptr 0 4 0] (qAl k a0 a1 x6_3.2 a3) trivial (fun _ => trivial) fun x8_1 hx8_1 => ?_
   let Q15 : Blk := ⟨[.i 20, .str i38c0, .own 4 (x7_4).length 7, .bool false, .bool false, .nils, w9 x8_1.1], 7, false⟩
   refine oH 11 (atN 1 (ctl1 i38p12)) ((44, .ptr 0 4 0) :: (43, .ptr 2 7 6) :: (42, w9 x8_1.1) :: (4, w9 x8_1.1) :: (41, w9 x8_1.1) :: (40, .ptr 0 4 0) :: E11) (mkH [⟨[.str a0, w34 a1, .i x8_1.2, .i a3], 4, false⟩, Q2, Q15, Q4, Q14, ⟨[], 0, false⟩, Q9, Q11, Q12]) ?_
   refine oX (fun (x9_1 : Int) => .tuple []) (fun x9_1 => [⟨[.str a0, w34 a1, .i x9_1, .i a3], 4, false⟩, Q2, Q15, Q4, Q14, ⟨[], 0, false⟩, Q9, Q11, Q12]) (atN 2 (ctl1 i38p12)) 45 [0] [] [] [0, 2] [0, 0, 0, 1, 1] [.ptr 0 4 0, .str [101, 110, 100]] (qAj k ([101, 110, 100] : List Nat) a0 a1 x8_1.2 a3) (qAw k ([101, 110, 100] : List Nat) a0 a1 x8_1.2 a3) trivial (fun _ => trivial) ⟨u29 _, u29 _, trivial⟩ fun x9_1 hx9_1 => ?_
   refine oL 2 i38p14 [(2, .ptr 1 7 0), (3, .ptr 2 7 0)] ?_
   exact oQF 5 [⟨[.str a0, w34 a1, .i x9_1, .i a3], 4, false⟩, Q15, Q15, Q4, Q14, ⟨[], 0, false⟩, Q9, Q11, Q12] 1 [] [.agg [.i 20, .str i38c0, .own 4 (x7_4).length 7, .bool false, .bool false, .nils, w9 x8_1.1]] (.agg [.i 20, .str i38c0, w29 x7_4, .bool false, .bool false, .vec 0 1 [], w9 x8_1.1]) (.agg (.cs (.cs (qAs qA7 qAg rfl rfl rfl (.cs (.cs (.nil .ps)))))) .ps) trivial
  ·let Q16 : Blk := ⟨[.i 20, .str [], .own 4 (x2_4.2).length 7, .bool false, .bool false, .nils, w9 x3_1.1], 7, false⟩
   refine oLH 9 i38p12 [(0, .ptr 0 4 0), (2, .ptr 1 7 0), (3, .ptr 2 7 0)] (mkH [⟨[.str a0, w34 a1, .i x4_1.2, .i a3], 4, false⟩, Q2, Q16, Q4, Q7]) ?_
   refine oR 2 (atN 1 (ctl1 i38p12)) ((44, .ptr 0 4 0) :: [(0, .ptr 0 4 0), (2, .ptr 1 7 0), (3, .ptr 2 7 0)]) ?_
   refine oX (fun (x9_1 : Int) => .tuple []) (fun x9_1 => [⟨[.str a0, w34 a1, .i x9_1, .i a3], 4, false⟩, Q2, Q16, Q4, Q7]) (atN 2 (ctl1 i38p12)) 45 [0] [] [] [0, 2] [0, 0, 0, 1, 1] [.ptr 0 4 0, .str [101, 110, 100]] (qAj k ([101, 110, 100] : List Nat) a0 a1 x4_1.2 a3) (qAw k ([101, 110, 100] : List Nat) a0 a1 x4_1.2 a3) trivial (fun _ => trivial) ⟨u29 _, u29 _, trivial⟩ fun x9_1 hx9_1 => ?_
   exact oQF 7 [⟨[.str a0, w34 a1, .i x9_1, .i a3], 4, false⟩, Q16, Q16, Q4, Q7] 1 [] [.agg [.i 20, .str [], .own 4 (x2_4.2).length 7, .bool false, .bool false, .nils, w9 x3_1.1]] (.agg [.i 20, .str [], w29 x2_4.2, .bool false, .bool false, .vec 0 1 [], w9 x3_1.1]) (.agg (.cs (.cs (qAs qA7 qAg rfl rfl rfl (.cs (.cs (.nil .ps)))))) .ps) trivial
 ·refine oR 6 (atN 1 (ctl1 i38p6)) ((21, .ptr 0 4 0) :: (12, .bool false) :: E2) ?_
  refine oX (fun (x4_1 : (Bool × Int)) => .bool x4_1.1) (fun x4_1 => [⟨[.str a0, w34 a1, .i x4_1.2, .i a3], 4, false⟩, Q2, Q5, Q4]) (atN 2 (ctl1 i38p6)) 22 [0] [] [] [2] [0, 0, 0, 1] [.ptr 0 4 0, .str i38c0] (qAb k i38c0 a0 a1 x0_1.2 a3) (qAi k i38c0 a0 a1 x0_1.2 a3) trivial (fun _ => trivial) ⟨u29 _, trivial⟩ fun x4_1 hx4_1 => ?_
  refine oL 1 i38p8 [(0, .ptr 0 4 0), (2, .ptr 1 7 0), (3, .ptr 2 7 0), (4, w9 x0_1.1), (22, .bool x4_1.1)] ?_
  let E15 : Env := [(0, .ptr 0 4 0), (2, .ptr 1 7 0), (3, .ptr 2 7 0), (4, w9 x0_1.1), (22, .bool x4_1.1)]
  refine oS 22 (fun hb => ?_) (fun hb => ?_)
  ·refine oR 4 (atN 1 (ctl1 i38p9)) ((23, .ptr 0 4 0) :: (22, .bool true) :: E15) ?_
   refine oX (fun (x5_1 : (S28 × Int)) => n29 x5_1.1) (fun x5_1 => [⟨[.str a0, w34 a1, .i x5_1.2, .i a3], 4, false⟩, Q2, Q5, Q4]) (atN 2 (ctl1 i38p9)) 24 [0] [] [] [0, 2] [0, 0, 0, 1] [.ptr 0 4 0, .i 1] (hF.i5_thr (1 : Int) a0 a1 x4_1.2 a3) (hF.i5_ok (1 : Int) a0 a1 x4_1.2 a3) trivial (fun _ => trivial) ⟨u29 _, trivial⟩ fun x5_1 hx5_1 => ?_
   let Q17 : Blk := ⟨[.str a0, w34 a1, .i x5_1.2, .i a3], 4, false⟩
   refine oH 1 (atN 3 (ctl1 i38p9)) ((25, .slice 4 7 0 1 7) :: (24, n29 x5_1.1) :: (23, .ptr 0 4 0) :: (22, .bool true) :: E15) (mkH [Q17, Q2, Q5, Q4, ⟨e29 x5_1.1, 0, false⟩]) ?_
   refine oZ 25 4 1 7 [.i x5_1.1.f0, .str x5_1.1.f1, q29 x5_1.1.f2, .bool x5_1.1.f3, .bool x5_1.1.f4, w9 x5_1.1.f5, w9 x5_1.1.f6] [0, 2, 3, 4, 22, 23, 24] [0, 0, 0, 1] ⟨u29 _, trivial⟩ ?_
   let Q18 : Blk := ⟨[.i 23, .str [], w29 ([x5_1.1] : List S28), .bool false, .bool false, .nils, .nils], 7, false⟩
   refine oH 9 (atN 3 (ctl1 i38p11)) [(29, .agg [.i 24, .str [], .nils, .bool false, .bool false, .nils, .nils]), (28, .agg [.i 23, .str [], w29 ([x5_1.1] : List S28), .bool false, .bool false, .nils, .nils]), (27, .ptr 0 4 0), (5, .ptr 5 7 0), (26, .agg [.i 23, .str [], w29 ([x5_1.1] : List S28), .bool false, .bool false, .nils, .nils]), (25, w29 ([x5_1.1] : List S28)), (0, .ptr 0 4 0), (2, .ptr 1 7 0), (3, .ptr 2 7 0), (4, w9 x0_1.1), (22, .bool true), (23, .ptr 0 4 0), (24, n29 x5_1.1)] (mkH [Q17, Q2, Q5, Q4, ⟨[], 0, false⟩, Q18]) ?_
   refine oXW 0 [Q17, Q2, Q5, Q4, ⟨[], 0, false⟩, Q18] (fun (x6_3 : (S28 × Int)) => n29 x6_3.1) (fun x6_3 => [⟨[.str a0, w34 a1, .i x6_3.2, .i a3], 4, false⟩, Q2, Q5, Q4, ⟨[], 0, false⟩, Q18]) (atN 4 (ctl1 i38p11)) 30 [0] [] [] [0, 2] [0, 0, 0, 1] [0, 0, 0, 1] [.ptr 0 4 0, .str [], .agg [.i 23, .str [], w29 ([x5_1.1] : List S28), .bool false, .bool false, .nils, .nils], .agg [.i 24, .str [], .nils, .bool false, .bool false, .nils, .nils]] [.ptr 0 4 0, .str [], .agg [.i 23, .str [], w29 ([x5_1.1] : List S28), .bool false, .bool false, w9 ([] : List (List Nat)), w9 ([] : List (List Nat))], .agg [.i 24, .str [], w29 ([] : List S28), .bool false, .bool false, w9 ([] : List (List Nat)), w9 ([] : List (List Nat))]] (.cons (.cons (.agg (.cons (.cons (.cons (.cons (.cons (.nil (.nil (.refl)))))))) (.agg (.cons (.cons (.nil (.cons (.cons (.nil (.nil (.refl)))))))) (.refl))))) (hF.i47_thr ([] : List Nat) (23 : Int) ([] : List Nat) (⟨(([x5_1.1] : List S28)).length, (([x5_1.1] : List S28)).flatMap e29⟩ : Raw) false false ([] : List (List Nat)) ([] : List (List Nat)) (24 : Int) ([] : List Nat) (⟨(([] : List S28)).length, (([] : List S28)).flatMap e29⟩ : Raw) false false ([] : List (List Nat)) ([] : List (List Nat)) a0 a1 x5_1.2 a3) (hF.i47_ok ([] : List Nat) (23 : Int) ([] : List Nat) (⟨(([x5_1.1] : List S28)).length, (([x5_1.1] : List S28)).flatMap e29⟩ : Raw) false false ([] : List (List Nat)) ([] : List (List Nat)) (24 : Int) ([] : List Nat) (⟨(([] : List S28)).length, (([] : List S28)).flatMap e29⟩ : Raw) false false ([] : List (List Nat)) ([] : List (List Nat)) a0 a1 x5_1.2 a3) trivial (fun _ => trivial) ⟨u29 _, trivial⟩ fun x6_3 hx6_3 => ?_
   let Q19 : Blk := ⟨[.str a0, w34 a1, .i x6_3.2, .i a3], 4, false⟩
   refine oLH 4 i38p13 [(0, .ptr 0 4 0), (2, .ptr 1 7 0), (3, .ptr 2 7 0), (4, w9 x0_1.1), (6, .ptr 6 7 0)] (mkH [Q19, Q2, Q5, Q4, ⟨[], 0, false⟩, Q18, ⟨e29 x6_3.1, 7, false⟩]) ?_
   let Q20 : Blk := ⟨[.i x6_3.1.f0, .str x6_3.1.f1, q29 x6_3.1.f2, .bool x6_3.1.f3, .bool x6_3.1.f4, w9 x0_1.1, w9 x6_3.1.f6], 7, false⟩
   let Q21 : Blk := ⟨[.i x6_3.1.f0, .str x6_3.1.f1, q29 x6_3.1.f2, .bool x6_3.1.f3, .bool x6_3.1.f4, w9 x0_1.1, w9 x6_3.1.f6], 0, false⟩
   refine oH 11 (atN 4 (ctl1 i38p15)) ((36, .slice 7 7 0 1 7) :: (35, .agg [.i x6_3.1.f0, .str x6_3.1.f1, q29 x6_3.1.f2, .bool x6_3.1.f3, .bool x6_3.1.f4, w9 x0_1.1, w9 x6_3.1.f6]) :: (34, .own 3 (([] : List S28)).length 7) :: (33, .ptr 2 7 2) :: (32, .ptr 6 7 5) :: (31, w9 x0_1.1) :: [(0, .ptr 0 4 0), (2, .ptr 1 7 0), (3, .ptr 2 7 0), (4, w9 x0_1.1), (6, .ptr 6 7 0)]) (mkH [Q19, Q2, Q5, Q4, ⟨[], 0, false⟩, Q18, Q20, Q21]) ?_
   refine oC (fun (x7_4 : (List S28)) => (.own 3 (x7_4).length 7, (mkH [Q19, Q2, Q5, ⟨(x7_4).flatMap e29, 0, false⟩, ⟨[], 0, false⟩, Q18, Q20, Q21]))) (atN 5 (ctl1 i38p15)) 37 (appH (sz := 7) qA7 rfl qAx [Q19, Q2, Q5, Q4, ⟨[], 0, false⟩, Q18, Q20, Q21] 3 104 ([] : List S28) ([(⟨x6_3.1.f0, x6_3.1.f1, x6_3.1.f2, x6_3.1.f3, x6_3.1.f4, x0_1.1, x6_3.1.f6⟩ : S28)] : List S28) rfl rfl (by kernel_rfl)) fun x7_4 hx7_4 => ?_
   let Q22 : Blk := ⟨[.i 20, .str i38c0, .own 3 (x7_4).length 7, .bool false, .bool false, .nils, .nils], 7, false⟩
   let Q23 : Blk := ⟨(x7_4).flatMap e29, 0, false⟩
   refine oLH 5 i38p17 [(0, .ptr 0 4 0), (2, .ptr 1 7 0), (3, .ptr 2 7 0)] (mkH [Q19, Q2, Q22, Q23, ⟨[], 0, false⟩, Q18, Q20, Q21]) ?_
   let E19 : Env := [(0, .ptr 0 4 0), (2, .ptr 1 7 0), (3, .ptr 2 7 0)]
   refine oR 2 (atN 1 (ctl1 i38p17)) ((40, .ptr 0 4 0) :: E19) ?_
   refine oN (fun (x8_1 : Ri12) => w9 x8_1.1) (fun x8_1 => [⟨[.str a0, w34 a1, .i x8_1.2, .i a3], 4, false⟩, Q2, Q22, Q23, ⟨[], 0, false⟩, Q18, Q20, Q21]) (atN 2 (ctl1 i38p17)) 41 [0] [] [] [.ptr 0 4 0] (qAl k a0 a1 x6_3.2 a3) trivial (fun _ => trivial) fun x8_1 hx8_1 => ?_
   let Q24 : Blk := ⟨[.i 20, .str i38c0, .own 3 (x7_4).length 7, .bool false, .bool false, .nils, w9 x8_1.1], 7, false⟩
   refine oH 11 (atN 1 (ctl1 i38p12)) ((44, .ptr 0 4 0) :: (43, .ptr 2 7 6) :: (42, w9 x8_1.1) :: (4, w9 x8_1.1) :: (41, w9 x8_1.1) :: (40, .ptr 0 4 0) :: E19) (mkH [⟨[.str a0, w34 a1, .i x8_1.2, .i a3], 4, false⟩, Q2, Q24, Q23, ⟨[], 0, false⟩, Q18, Q20, Q21]) ?_
   refine oX (fun (x9_1 : Int) => .tuple []) (fun x9_1 => [⟨[.str a0, w34 a1, .i x9_1, .i a3], 4, false⟩, Q2, Q24, Q23, ⟨[], 0, false⟩, Q18, Q20, Q21]) (atN 2 (ctl1 i38p12)) 45 [0] [] [] [0, 2] [0, 0, 0, 1] [.ptr 0 4 0, .str [101, 110, 100]] (qAj k ([101, 110, 100] : List Nat) a0 a1 x8_1.2 a3) (qAw k ([101, 110, 100] : List Nat) a0 a1 x8_1.2 a3) trivial (fun _ => trivial) ⟨u29 _, trivial⟩ fun x9_1 hx9_1 => ?_
   refine oL 2 i38p14 [(2, .ptr 1 7 0), (3, .ptr 2 7 0)] ?_
   exact oQF 5 [⟨[.str a0, w34 a1, .i x9_1, .i a3], 4, false⟩, Q24, Q24, Q23, ⟨[], 0, false⟩, Q18, Q20, Q21] 1 [] [.agg [.i 20, .str i38c0, .own 3 (x7_4).length 7, .bool false, .bool false, .nils, w9 x8_1.1]] (.agg [.i 20, .str i38c0, w29 x7_4, .bool false, .bool false, .vec 0 1 [], w9 x8_1.1]) (.agg (.cs (.cs (qAs qA7 qAg rfl rfl rfl (.cs (.cs (.nil .ps)))))) .ps) trivial
  ·let Q25 : Blk := ⟨[.i 20, .str [], .own 3 (([] : List S28)).length 7, .bool false, .bool false, .nils, w9 x0_1.1], 7, false⟩
   refine oH 11 (atN 1 (ctl1 i38p12)) ((44, .ptr 0 4 0) :: (43, .ptr 2 7 6) :: (42, w9 x0_1.1) :: (22, .bool false) :: E15) (mkH [⟨[.str a0, w34 a1, .i x4_1.2, .i a3], 4, false⟩, Q2, Q25, Q4]) ?_
   refine oX (fun (x9_1 : Int) => .tuple []) (fun x9_1 => [⟨[.str a0, w34 a1, .i x9_1, .i a3], 4, false⟩, Q2, Q25, Q4]) (atN 2 (ctl1 i38p12)) 45 [0] [] [] [0, 2] [0, 0, 0, 1] [.ptr 0 4 0, .str [101, 110, 100]] (qAj k ([101, 110, 100] : List Nat) a0 a1 x4_1.2 a3) (qAw k ([101, 110, 100] : List Nat) a0 a1 x4_1.2 a3) trivial (fun _ => trivial) ⟨u29 _, trivial⟩ fun x9_1 hx9_1 => ?_
   refine oL 2 i38p14 [(2, .ptr 1 7 0), (3, .ptr 2 7 0)] ?_
   exact oQF 5 [⟨[.str a0, w34 a1, .i x9_1, .i a3], 4, false⟩, Q25, Q25, Q4] 1 [] [.agg [.i 20, .str [], .own 3 (([] : List S28)).length 7, .bool false, .bool false, .nils, w9 x0_1.1]] (.agg [.i 20, .str [], w29 ([] : List S28), .bool false, .bool false, .vec 0 1 [], w9 x0_1.1]) (.agg (.cs (.cs (qAs qA7 qAg rfl rfl rfl (.cs (.cs (.nil .ps)))))) .ps) trivial
theorem i38B_ok (k : Nat) (F : Fns0) (hF : FnsOk0 F) : Pi38 (i38B k F) := fun a0 a1 a2 a3 x h => qJ3 k F hF a0 a1 a2 a3 (some x) h
theorem i38B_thr (k : Nat) (F : Fns0) (hF : FnsOk0 F) : Qi38 (i38B k F) := fun a0 a1 a2 a3 h => ⟨_, qJ3 k F hF a0 a1 a2 a3 none h⟩
def Xi40 (a0 : (List (List Nat))) (a1 : (List Nat)) (a2 : (List S33)) (a3 : Int) (a4 : Int) : Fx (Option Ri40) := ⟨Try.prog, cx, Try.f105, fun r => match r with | some r => w29 r.1 | none => .top, 2, fun r => match r with | some r => (mkH [⟨[.str a1, w34 a2, .i r.2, .i a4], 4, false⟩, ⟨[.ptr 0 4 0], 1, false⟩]) | none => (mkH [⟨[.str a1, w34 a2, .i a3, .i a4], 4, false⟩, ⟨[.ptr 0 4 0], 1, false⟩]), cxTi, cxOrd, fun r => match r with | some _ => none | none => some (thrown, [0, 1]), false⟩
def i40p0 : Pt := nav [0] (bodyAt Try.f105)
def i40p1 : Pt := nav [0, 0, 0, 0] i40p0
def i40p2 : Pt := nav [0, 0, 0, 0, 0] i40p1
def i40p3 : Pt := nav [0, 0, 0] i40p2
def i40p4 : Pt := nav [0, 0, 0] i40p3
def i40p5 : Pt := nav [0, 0, 0, 0] i40p4
def i40p6 : Pt := nav [0, 0] i40p5
def i40p7 : Pt := nav [1, 0] i40p6
def qH5 (k : Nat) (F : Fns0)  (a1 : (List Nat)) (a2 : (List S33)) (a4 : Int) (ih : (List (List Nat)) → Int → (List S28) → Option (Option Ri40)) : (List (List Nat)) → Int → (List S28) → Option (Option Ri40) :=
 fun (y4_0 : (List (List Nat))) (y4_1 : Int) (y4_2 : (List S28)) => bT (F.i44 a1 a2 y4_1 a4) fun x0_1 => (appS 104 y4_2 ([(⟨x0_1.1.f0, x0_1.1.f1, x0_1.1.f2, x0_1.1.f3, x0_1.1.f4, y4_0, x0_1.1.f6⟩ : S28)] : List S28)).bind fun x1_3 => bT (i7 k ([59] : List Nat) a1 a2 x0_1.2 a4) fun x2_1 => if x2_1.1 then ((i12 k a1 a2 x2_1.2 a4).bind fun x3_1 => ih x3_1.1 x3_1.2 x1_3) else (some (some (x1_3, x2_1.2)))
def qMk (k : Nat) (F : Fns0)  (a1 : (List Nat)) (a2 : (List S33)) (a4 : Int) (n : Nat) : (List (List Nat)) → Int → (List S28) → Option (Option Ri40) := lp (fun _ _ _ => none) (qH5 k F a1 a2 a4) n
theorem qMj (k : Nat) (F : Fns0) (hF : FnsOk0 F) (a0 : (List (List Nat))) (a1 : (List Nat)) (a2 : (List S33)) (a3 : Int) (a4 : Int)    : ∀ (n : Nat) (y4_0 : (List (List Nat))) (y4_1 : Int) (y4_2 : (List S28)), Ok (Xi40 a0 a1 a2 a3 a4) i40p2 [(0, .ptr 0 4 0), (1, w9 y4_0), (2, .func 106 [] [.ptr 1 1 0]), (7, .own 2 (y4_2).length 7)] (mkH [⟨[.str a1, w34 a2, .i y4_1, .i a4], 4, false⟩, ⟨[.ptr 0 4 0], 1, false⟩, ⟨(y4_2).flatMap e29, 0, false⟩]) (qMk k F a1 a2 a4 n y4_0 y4_1 y4_2) := by
 intro n
 induction n with
 | zero => intro y4_0 y4_1 y4_2; exact ok_none
 | succ n ih =>
  intro y4_0 y4_1 y4_2
  show Ok _ _ _ _ (qH5 k F a1 a2 a4 (qMk k F a1 a2 a4 n) y4_0 y4_1 y4_2)
  unfold qH5
  let E2 : Env := [(9, .func 106 [] [.ptr 1 1 0]), (0, .ptr 0 4 0), (1, w9 y4_0), (2, .func 106 [] [.ptr 1 1 0]), (7, .own 2 (y4_2).length 7)]
  let Q1 : Blk := ⟨(y4_2).flatMap e29, 0, false⟩
  refine oH 2 (atN 1 (ctl1 i40p2)) E2 (mkH [⟨[.str a1, w34 a2, .i y4_1, .i a4], 4, false⟩, ⟨[.ptr 0 4 0], 1, false⟩, Q1]) ?_
  refine oX (fun (x0_1 : (S28 × Int)) => n29 x0_1.1) (fun x0_1 => [⟨[.str a1, w34 a2, .i x0_1.2, .i a4], 4, false⟩, ⟨[.ptr 0 4 0], 1, false⟩, Q1]) (atN 2 (ctl1 i40p2)) 10 [0, 1] [] [] [0, 1] [0, 0, 1] [.ptr 1 1 0] (hF.i44_thr a1 a2 y4_1 a4) (hF.i44_ok a1 a2 y4_1 a4) trivial (fun _ => trivial) ⟨u29 _, trivial⟩ fun x0_1 hx0_1 => ?_
  let Q2 : Blk := ⟨[.str a1, w34 a2, .i x0_1.2, .i a4], 4, false⟩
  let Q3 : Blk := ⟨[.i x0_1.1.f0, .str x0_1.1.f1, q29 x0_1.1.f2, .bool x0_1.1.f3, .bool x0_1.1.f4, w9 y4_0, w9 x0_1.1.f6], 7, false⟩
  let Q4 : Blk := ⟨[.i x0_1.1.f0, .str x0_1.1.f1, q29 x0_1.1.f2, .bool x0_1.1.f3, .bool x0_1.1.f4, w9 y4_0, w9 x0_1.1.f6], 0, false⟩
  refine oH 14 (atN 3 (ctl1 i40p4)) ((15, .slice 4 7 0 1 7) :: (14, .agg [.i x0_1.1.f0, .str x0_1.1.f1, q29 x0_1.1.f2, .bool x0_1.1.f3, .bool x0_1.1.f4, w9 y4_0, w9 x0_1.1.f6]) :: (13, .own 2 (y4_2).length 7) :: (12, .ptr 3 7 5) :: (11, w9 y4_0) :: (8, .ptr 3 7 0) :: (10, n29 x0_1.1) :: E2) (mkH [Q2, ⟨[.ptr 0 4 0], 1, false⟩, Q1, Q3, Q4]) ?_
  refine oC (fun (x1_3 : (List S28)) => (.own 2 (x1_3).length 7, (mkH [Q2, ⟨[.ptr 0 4 0], 1, false⟩, ⟨(x1_3).flatMap e29, 0, false⟩, Q3, Q4]))) (atN 4 (ctl1 i40p4)) 16 (appH (sz := 7) qA7 rfl qAx [Q2, ⟨[.ptr 0 4 0], 1, false⟩, Q1, Q3, Q4] 2 104 y4_2 ([(⟨x0_1.1.f0, x0_1.1.f1, x0_1.1.f2, x0_1.1.f3, x0_1.1.f4, y4_0, x0_1.1.f6⟩ : S28)] : List S28) rfl rfl (by kernel_rfl)) fun x1_3 hx1_3 => ?_
  let Q5 : Blk := ⟨(x1_3).flatMap e29, 0, false⟩
  refine oLH 4 i40p5 [(0, .ptr 0 4 0), (2, .func 106 [] [.ptr 1 1 0]), (7, .own 2 (x1_3).length 7)] (mkH [Q2, ⟨[.ptr 0 4 0], 1, false⟩, Q5, Q3, Q4]) ?_
  let E4 : Env := [(0, .ptr 0 4 0), (2, .func 106 [] [.ptr 1 1 0]), (7, .own 2 (x1_3).length 7)]
  refine oR 2 (atN 1 (ctl1 i40p5)) ((17, .ptr 0 4 0) :: E4) ?_
  refine oX (fun (x2_1 : (Bool × Int)) => .bool x2_1.1) (fun x2_1 => [⟨[.str a1, w34 a2, .i x2_1.2, .i a4], 4, false⟩, ⟨[.ptr 0 4 0], 1, false⟩, Q5, Q3, Q4]) (atN 2 (ctl1 i40p5)) 18 [0] [] [] [1] [0, 0, 1] [.ptr 0 4 0, .str [59]] (qAb k ([59] : List Nat) a1 a2 x0_1.2 a4) (qAi k ([59] : List Nat) a1 a2 x0_1.2 a4) trivial (fun _ => trivial) ⟨u29 _, trivial⟩ fun x2_1 hx2_1 => ?_
  refine oR 1 i40p6 ((18, .bool x2_1.1) :: (17, .ptr 0 4 0) :: E4) ?_
  refine oS 18 (fun hb => ?_) (fun hb => ?_)
  ·refine oR 4 (atN 1 (ctl1 i40p7)) ((19, .ptr 0 4 0) :: (18, .bool true) :: (18, .bool x2_1.1) :: (17, .ptr 0 4 0) :: E4) ?_
   refine oN (fun (x3_1 : Ri12) => w9 x3_1.1) (fun x3_1 => [⟨[.str a1, w34 a2, .i x3_1.2, .i a4], 4, false⟩, ⟨[.ptr 0 4 0], 1, false⟩, Q5, Q3, Q4]) (atN 2 (ctl1 i40p7)) 20 [0] [] [] [.ptr 0 4 0] (qAl k a1 a2 x2_1.2 a4) trivial (fun _ => trivial) fun x3_1 hx3_1 => ?_
   refine oL 6 i40p2 [(0, .ptr 0 4 0), (1, w9 x3_1.1), (2, .func 106 [] [.ptr 1 1 0]), (7, .own 2 (x1_3).length 7)] ?_
   refine qAc [⟨[.str a1, w34 a2, .i x3_1.2, .i a4], 4, false⟩, ⟨[.ptr 0 4 0], 1, false⟩, Q5] [Q3, Q4] (by kernel_rfl) rfl (by kernel_rfl) ⟨(by kernel_rfl), ⟨(by kernel_rfl), ⟨(qA3 _ (u29 _)), trivial⟩⟩⟩ ?_
   exact ih x3_1.1 x3_1.2 x1_3
  ·exact oQF 8 [⟨[.str a1, w34 a2, .i x2_1.2, .i a4], 4, false⟩, ⟨[.ptr 0 4 0], 1, false⟩, Q5, Q3, Q4] 2 [] [.own 2 (x1_3).length 7] (w29 x1_3) (qAs qA7 qAg rfl rfl rfl .ps) trivial
def i40B (k : Nat) (F : Fns0) (a0 : (List (List Nat))) (a1 : (List Nat)) (a2 : (List S33)) (a3 : Int) (a4 : Int) : Option (Option Ri40) :=
 qMk k F a1 a2 a4 k a0 a3 ([] : List S28)
theorem qJ2 (k : Nat) (F : Fns0) (hF : FnsOk0 F) (a0 : (List (List Nat))) (a1 : (List Nat)) (a2 : (List S33)) (a3 : Int) (a4 : Int) (r : (Option Ri40)) (h : i40B k F a0 a1 a2 a3 a4 = some r) : CallT Try.prog 105 [.ptr 0 4 0, w9 a0, .func 106 [] [.ptr 1 1 0]] (mkH [⟨[.str a1, w34 a2, .i a3, .i a4], 4, false⟩, ⟨[.ptr 0 4 0], 1, false⟩]) ((Xi40 a0 a1 a2 a3 a4).thr r) ((Xi40 a0 a1 a2 a3 a4).enc r) ((Xi40 a0 a1 a2 a3 a4).fin r) := by
 refine qA2 (Xi40 a0 a1 a2 a3 a4) Try.func105 (by kernel_rfl) (by kernel_rfl) rfl (t := i40B k F a0 a1 a2 a3 a4) ?_ h
 unfold i40B
 refine qA0 (eE := [(0, .ptr 0 4 0), (1, w9 a0), (2, .func 106 [] [.ptr 1 1 0])]) (by kernel_rfl) ?_
 let E1 : Env := [(7, .nils), (6, .nils), (0, .ptr 0 4 0), (1, w9 a0), (2, .func 106 [] [.ptr 1 1 0])]
 let Q1 : Blk := ⟨[.str a1, w34 a2, .i a3, .i a4], 4, false⟩
 refine oH 8 (atN 1 (ctl1 i40p1)) E1 (mkH [Q1, ⟨[.ptr 0 4 0], 1, false⟩]) ?_
 refine qEi [Q1, ⟨[.ptr 0 4 0], 1, false⟩] 7 7 rfl (by kernel_rfl) ?_
 refine oH 4 i40p2 ((7, .own 2 (([] : List S28)).length 7) :: E1) (mkH [Q1, ⟨[.ptr 0 4 0], 1, false⟩, ⟨(([] : List S28)).flatMap e29, 0, false⟩]) ?_
 refine oK [0, 1, 2, 7] [(0, .ptr 0 4 0), (1, w9 a0), (2, .func 106 [] [.ptr 1 1 0]), (7, .own 2 (([] : List S28)).length 7)] ?_
 exact (qMj k F hF a0 a1 a2 a3 a4 k) a0 a3 ([] : List S28)
theorem i40B_ok (k : Nat) (F : Fns0) (hF : FnsOk0 F) : Pi40 (i40B k F) := fun a0 a1 a2 a3 a4 x h => qJ2 k F hF a0 a1 a2 a3 a4 (some x) h
theorem i40B_thr (k : Nat) (F : Fns0) (hF : FnsOk0 F) : Qi40 (i40B k F) := fun a0 a1 a2 a3 a4 h => ⟨_, qJ2 k F hF a0 a1 a2 a3 a4 none h⟩
def Xi41 (a0 : (List (List Nat))) (a1 : (List Nat)) (a2 : (List S33)) (a3 : Int) (a4 : Int) : Fx (Option Ri41) := ⟨Try.prog, cx, Try.f105, fun r => match r with | some r => w29 r.1 | none => .top, 1, fun r => match r with | some r => (mkH [⟨[.str a1, w34 a2, .i r.2, .i a4], 4, false⟩]) | none => (mkH [⟨[.str a1, w34 a2, .i a3, .i a4], 4, false⟩]), cxTi, cxOrd, fun r => match r with | some _ => none | none => some (thrown, [0]), false⟩
def i41p0 : Pt := nav [0] (bodyAt Try.f105)
def i41p1 : Pt := nav [0, 0, 0, 0] i41p0
def i41p2 : Pt := nav [0, 0, 0, 0, 0] i41p1
def i41p3 : Pt := nav [0, 0, 0] i41p2
def i41p4 : Pt := nav [0, 0, 0] i41p3
def i41p5 : Pt := nav [0, 0, 0, 0] i41p4
def i41p6 : Pt := nav [0, 0] i41p5
def i41p7 : Pt := nav [1, 0] i41p6
def qH4 (k : Nat) (F : Fns0)  (a1 : (List Nat)) (a2 : (List S33)) (a4 : Int) (ih : (List (List Nat)) → Int → (List S28) → Option (Option Ri41)) : (List (List Nat)) → Int → (List S28) → Option (Option Ri41) :=
 fun (y4_0 : (List (List Nat))) (y4_1 : Int) (y4_2 : (List S28)) => bT (F.i45 a1 a2 y4_1 a4) fun x0_1 => (appS 104 y4_2 ([(⟨x0_1.1.f0, x0_1.1.f1, x0_1.1.f2, x0_1.1.f3, x0_1.1.f4, y4_0, x0_1.1.f6⟩ : S28)] : List S28)).bind fun x1_3 => bT (i7 k ([59] : List Nat) a1 a2 x0_1.2 a4) fun x2_1 => if x2_1.1 then ((i12 k a1 a2 x2_1.2 a4).bind fun x3_1 => ih x3_1.1 x3_1.2 x1_3) else (some (some (x1_3, x2_1.2)))
def qMi (k : Nat) (F : Fns0)  (a1 : (List Nat)) (a2 : (List S33)) (a4 : Int) (n : Nat) : (List (List Nat)) → Int → (List S28) → Option (Option Ri41) := lp (fun _ _ _ => none) (qH4 k F a1 a2 a4) n
theorem qMh (k : Nat) (F : Fns0) (hF : FnsOk0 F) (a0 : (List (List Nat))) (a1 : (List Nat)) (a2 : (List S33)) (a3 : Int) (a4 : Int)    : ∀ (n : Nat) (y4_0 : (List (List Nat))) (y4_1 : Int) (y4_2 : (List S28)), Ok (Xi41 a0 a1 a2 a3 a4) i41p2 [(0, .ptr 0 4 0), (1, w9 y4_0), (2, .func 100 [.ptr 0 4 0] []), (7, .own 1 (y4_2).length 7)] (mkH [⟨[.str a1, w34 a2, .i y4_1, .i a4], 4, false⟩, ⟨(y4_2).flatMap e29, 0, false⟩]) (qMi k F a1 a2 a4 n y4_0 y4_1 y4_2) := by
 intro n
 induction n with
 | zero => intro y4_0 y4_1 y4_2; exact ok_none
 | succ n ih =>
  intro y4_0 y4_1 y4_2
  show Ok _ _ _ _ (qH4 k F a1 a2 a4 (qMi k F a1 a2 a4 n) y4_0 y4_1 y4_2)
  unfold qH4
  let E2 : Env := [(9, .func 100 [.ptr 0 4 0] []), (0, .ptr 0 4 0), (1, w9 y4_0), (2, .func 100 [.ptr 0 4 0] []), (7, .own 1 (y4_2).length 7)]
  let Q1 : Blk := ⟨(y4_2).flatMap e29, 0, false⟩
  refine oH 2 (atN 1 (ctl1 i41p2)) E2 (mkH [⟨[.str a1, w34 a2, .i y4_1, .i a4], 4, false⟩, Q1]) ?_
  refine oX (fun (x0_1 : (S28 × Int)) => n29 x0_1.1) (fun x0_1 => [⟨[.str a1, w34 a2, .i x0_1.2, .i a4], 4, false⟩, Q1]) (atN 2 (ctl1 i41p2)) 10 [0] [] [] [0] [0, 1] [.ptr 0 4 0] (hF.i45_thr a1 a2 y4_1 a4) (hF.i45_ok a1 a2 y4_1 a4) trivial (fun _ => trivial) ⟨u29 _, trivial⟩ fun x0_1 hx0_1 => ?_
  let Q2 : Blk := ⟨[.str a1, w34 a2, .i x0_1.2, .i a4], 4, false⟩
  let Q3 : Blk := ⟨[.i x0_1.1.f0, .str x0_1.1.f1, q29 x0_1.1.f2, .bool x0_1.1.f3, .bool x0_1.1.f4, w9 y4_0, w9 x0_1.1.f6], 7, false⟩
  let Q4 : Blk := ⟨[.i x0_1.1.f0, .str x0_1.1.f1, q29 x0_1.1.f2, .bool x0_1.1.f3, .bool x0_1.1.f4, w9 y4_0, w9 x0_1.1.f6], 0, false⟩
  refine oH 14 (atN 3 (ctl1 i41p4)) ((15, .slice 3 7 0 1 7) :: (14, .agg [.i x0_1.1.f0, .str x0_1.1.f1, q29 x0_1.1.f2, .bool x0_1.1.f3, .bool x0_1.1.f4, w9 y4_0, w9 x0_1.1.f6]) :: (13, .own 1 (y4_2).length 7) :: (12, .ptr 2 7 5) :: (11, w9 y4_0) :: (8, .ptr 2 7 0) :: (10, n29 x0_1.1) :: E2) (mkH [Q2, Q1, Q3, Q4]) ?_
  refine oC (fun (x1_3 : (List S28)) => (.own 1 (x1_3).length 7, (mkH [Q2, ⟨(x1_3).flatMap e29, 0, false⟩, Q3, Q4]))) (atN 4 (ctl1 i41p4)) 16 (appH (sz := 7) qA7 rfl qAx [Q2, Q1, Q3, Q4] 1 104 y4_2 ([(⟨x0_1.1.f0, x0_1.1.f1, x0_1.1.f2, x0_1.1.f3, x0_1.1.f4, y4_0, x0_1.1.f6⟩ : S28)] : List S28) rfl rfl (by kernel_rfl)) fun x1_3 hx1_3 => ?_
  let Q5 : Blk := ⟨(x1_3).flatMap e29, 0, false⟩
  refine oLH 4 i41p5 [(0, .ptr 0 4 0), (2, .func 100 [.ptr 0 4 0] []), (7, .own 1 (x1_3).length 7)] (mkH [Q2, Q5, Q3, Q4]) ?_
  let E4 : Env := [(0, .ptr 0 4 0), (2, .func 100 [.ptr 0 4 0] []), (7, .own 1 (x1_3).length 7)]
  refine oR 2 (atN 1 (ctl1 i41p5)) ((17, .ptr 0 4 0) :: E4) ?_
  refine oX (fun (x2_1 : (Bool × Int)) => .bool x2_1.1) (fun x2_1 => [⟨[.str a1, w34 a2, .i x2_1.2, .i a4], 4, false⟩, Q5, Q3, Q4]) (atN 2 (ctl1 i41p5)) 18 [0] [] [] [] [0, 1] [.ptr 0 4 0, .str [59]] (qAb k ([59] : List Nat) a1 a2 x0_1.2 a4) (qAi k ([59] : List Nat) a1 a2 x0_1.2 a4) trivial (fun _ => trivial) ⟨u29 _, trivial⟩ fun x2_1 hx2_1 => ?_
  refine oR 1 i41p6 ((18, .bool x2_1.1) :: (17, .ptr 0 4 0) :: E4) ?_
  refine oS 18 (fun hb => ?_) (fun hb => ?_)
  ·refine oR 4 (atN 1 (ctl1 i41p7)) ((19, .ptr 0 4 0) :: (18, .bool true) :: (18, .bool x2_1.1) :: (17, .ptr 0 4 0) :: E4) ?_
   refine oN (fun (x3_1 : Ri12) => w9 x3_1.1) (fun x3_1 => [⟨[.str a1, w34 a2, .i x3_1.2, .i a4], 4, false⟩, Q5, Q3, Q4]) (atN 2 (ctl1 i41p7)) 20 [0] [] [] [.ptr 0 4 0] (qAl k a1 a2 x2_1.2 a4) trivial (fun _ => trivial) fun x3_1 hx3_1 => ?_
   refine oL 6 i41p2 [(0, .ptr 0 4 0), (1, w9 x3_1.1), (2, .func 100 [.ptr 0 4 0] []), (7, .own 1 (x1_3).length 7)] ?_
   refine qAc [⟨[.str a1, w34 a2, .i x3_1.2, .i a4], 4, false⟩, Q5] [Q3, Q4] (by kernel_rfl) rfl (by kernel_rfl) ⟨(by kernel_rfl), ⟨(qA3 _ (u29 _)), trivial⟩⟩ ?_
   exact ih x3_1.1 x3_1.2 x1_3
  ·exact oQF 8 [⟨[.str a1, w34 a2, .i x2_1.2, .i a4], 4, false⟩, Q5, Q3, Q4] 1 [] [.own 1 (x1_3).length 7] (w29 x1_3) (qAs qA7 qAg rfl rfl rfl .ps) trivial
def i41B (k : Nat) (F : Fns0) (a0 : (List (List Nat))) (a1 : (List Nat)) (a2 : (List S33)) (a3 : Int) (a4 : Int) : Option (Option Ri41) :=
 qMi k F a1 a2 a4 k a0 a3 ([] : List S28)
theorem qJ1 (k : Nat) (F : Fns0) (hF : FnsOk0 F) (a0 : (List (List Nat))) (a1 : (List Nat)) (a2 : (List S33)) (a3 : Int) (a4 : Int) (r : (Option Ri41)) (h : i41B k F a0 a1 a2 a3 a4 = some r) : CallT Try.prog 105 [.ptr 0 4 0, w9 a0, .func 100 [.ptr 0 4 0] []] (mkH [⟨[.str a1, w34 a2, .i a3, .i a4], 4, false⟩]) ((Xi41 a0 a1 a2 a3 a4).thr r) ((Xi41 a0 a1 a2 a3 a4).enc r) ((Xi41 a0 a1 a2 a3 a4).fin r) := by
 refine qA2 (Xi41 a0 a1 a2 a3 a4) Try.func105 (by kernel_rfl) (by kernel_rfl) rfl (t := i41B k F a0 a1 a2 a3 a4) ?_ h
 unfold i41B
 refine qA0 (eE := [(0, .ptr 0 4 0), (1, w9 a0), (2, .func 100 [.ptr 0 4 0] [])]) (by kernel_rfl) ?_
 let E1 : Env := [(7, .nils), (6, .nils), (0, .ptr 0 4 0), (1, w9 a0), (2, .func 100 [.ptr 0 4 0] [])]
 let Q1 : Blk := ⟨[.str a1, w34 a2, .i a3, .i a4], 4, false⟩
 refine oH 8 (atN 1 (ctl1 i41p1)) E1 (mkH [Q1]) ?_
 refine qEi [Q1] 7 7 rfl (by kernel_rfl) ?_
 refine oH 4 i41p2 ((7, .own 1 (([] : List S28)).length 7) :: E1) (mkH [Q1, ⟨(([] : List S28)).flatMap e29, 0, false⟩]) ?_
 refine oK [0, 1, 2, 7] [(0, .ptr 0 4 0), (1, w9 a0), (2, .func 100 [.ptr 0 4 0] []), (7, .own 1 (([] : List S28)).length 7)] ?_
 exact (qMh k F hF a0 a1 a2 a3 a4 k) a0 a3 ([] : List S28)
theorem i41B_ok (k : Nat) (F : Fns0) (hF : FnsOk0 F) : Pi41 (i41B k F) := fun a0 a1 a2 a3 a4 x h => qJ1 k F hF a0 a1 a2 a3 a4 (some x) h
theorem i41B_thr (k : Nat) (F : Fns0) (hF : FnsOk0 F) : Qi41 (i41B k F) := fun a0 a1 a2 a3 a4 h => ⟨_, qJ1 k F hF a0 a1 a2 a3 a4 none h⟩
def Xi42 (a0 : (List (List Nat))) (a1 : (List Nat)) (a2 : (List S33)) (a3 : Int) (a4 : Int) : Fx (Option Ri42) := ⟨Try.prog, cx, Try.f105, fun r => match r with | some r => w29 r.1 | none => .top, 1, fun r => match r with | some r => (mkH [⟨[.str a1, w34 a2, .i r.2, .i a4], 4, false⟩]) | none => (mkH [⟨[.str a1, w34 a2, .i a3, .i a4], 4, false⟩]), cxTi, cxOrd, fun r => match r with | some _ => none | none => some (thrown, [0]), false⟩
def i42p0 : Pt := nav [0] (bodyAt Try.f105)
def i42p1 : Pt := nav [0, 0, 0, 0] i42p0
def i42p2 : Pt := nav [0, 0, 0, 0, 0] i42p1
def i42p3 : Pt := nav [0, 0, 0] i42p2
def i42p4 : Pt := nav [0, 0, 0] i42p3
def i42p5 : Pt := nav [0, 0, 0, 0] i42p4
def i42p6 : Pt := nav [0, 0] i42p5
def i42p7 : Pt := nav [1, 0] i42p6
def qH3 (k : Nat) (F : Fns0)  (a1 : (List Nat)) (a2 : (List S33)) (a4 : Int) (ih : (List (List Nat)) → Int → (List S28) → Option (Option Ri42)) : (List (List Nat)) → Int → (List S28) → Option (Option Ri42) :=
 fun (y4_0 : (List (List Nat))) (y4_1 : Int) (y4_2 : (List S28)) => bT (F.i46 a1 a2 y4_1 a4) fun x0_1 => (appS 104 y4_2 ([(⟨x0_1.1.f0, x0_1.1.f1, x0_1.1.f2, x0_1.1.f3, x0_1.1.f4, y4_0, x0_1.1.f6⟩ : S28)] : List S28)).bind fun x1_3 => bT (i7 k ([59] : List Nat) a1 a2 x0_1.2 a4) fun x2_1 => if x2_1.1 then ((i12 k a1 a2 x2_1.2 a4).bind fun x3_1 => ih x3_1.1 x3_1.2 x1_3) else (some (some (x1_3, x2_1.2)))
def qMg (k : Nat) (F : Fns0)  (a1 : (List Nat)) (a2 : (List S33)) (a4 : Int) (n : Nat) : (List (List Nat)) → Int → (List S28) → Option (Option Ri42) := lp (fun _ _ _ => none) (qH3 k F a1 a2 a4) n
theorem qMf (k : Nat) (F : Fns0) (hF : FnsOk0 F) (a0 : (List (List Nat))) (a1 : (List Nat)) (a2 : (List S33)) (a3 : Int) (a4 : Int)    : ∀ (n : Nat) (y4_0 : (List (List Nat))) (y4_1 : Int) (y4_2 : (List S28)), Ok (Xi42 a0 a1 a2 a3 a4) i42p2 [(0, .ptr 0 4 0), (1, w9 y4_0), (2, .func 101 [.ptr 0 4 0] []), (7, .own 1 (y4_2).length 7)] (mkH [⟨[.str a1, w34 a2, .i y4_1, .i a4], 4, false⟩, ⟨(y4_2).flatMap e29, 0, false⟩]) (qMg k F a1 a2 a4 n y4_0 y4_1 y4_2) := by
 intro n
 induction n with
 | zero => intro y4_0 y4_1 y4_2; exact ok_none
 | succ n ih =>
  intro y4_0 y4_1 y4_2
  show Ok _ _ _ _ (qH3 k F a1 a2 a4 (qMg k F a1 a2 a4 n) y4_0 y4_1 y4_2)
  unfold qH3
  let E2 : Env := [(9, .func 101 [.ptr 0 4 0] []), (0, .ptr 0 4 0), (1, w9 y4_0), (2, .func 101 [.ptr 0 4 0] []), (7, .own 1 (y4_2).length 7)]
  let Q1 : Blk := ⟨(y4_2).flatMap e29, 0, false⟩
  refine oH 2 (atN 1 (ctl1 i42p2)) E2 (mkH [⟨[.str a1, w34 a2, .i y4_1, .i a4], 4, false⟩, Q1]) ?_
  refine oX (fun (x0_1 : (S28 × Int)) => n29 x0_1.1) (fun x0_1 => [⟨[.str a1, w34 a2, .i x0_1.2, .i a4], 4, false⟩, Q1]) (atN 2 (ctl1 i42p2)) 10 [0] [] [] [0] [0, 1] [.ptr 0 4 0] (hF.i46_thr a1 a2 y4_1 a4) (hF.i46_ok a1 a2 y4_1 a4) trivial (fun _ => trivial) ⟨u29 _, trivial⟩ fun x0_1 hx0_1 => ?_
  let Q2 : Blk := ⟨[.str a1, w34 a2, .i x0_1.2, .i a4], 4, false⟩
  let Q3 : Blk := ⟨[.i x0_1.1.f0, .str x0_1.1.f1, q29 x0_1.1.f2, .bool x0_1.1.f3, .bool x0_1.1.f4, w9 y4_0, w9 x0_1.1.f6], 7, false⟩
  let Q4 : Blk := ⟨[.i x0_1.1.f0, .str x0_1.1.f1, q29 x0_1.1.f2, .bool x0_1.1.f3, .bool x0_1.1.f4, w9 y4_0, w9 x0_1.1.f6], 0, false⟩
  refine oH 14 (atN 3 (ctl1 i42p4)) ((15, .slice 3 7 0 1 7) :: (14, .agg [.i x0_1.1.f0, .str x0_1.1.f1, q29 x0_1.1.f2, .bool x0_1.1.f3, .bool x0_1.1.f4, w9 y4_0, w9 x0_1.1.f6]) :: (13, .own 1 (y4_2).length 7) :: (12, .ptr 2 7 5) :: (11, w9 y4_0) :: (8, .ptr 2 7 0) :: (10, n29 x0_1.1) :: E2) (mkH [Q2, Q1, Q3, Q4]) ?_
  refine oC (fun (x1_3 : (List S28)) => (.own 1 (x1_3).length 7, (mkH [Q2, ⟨(x1_3).flatMap e29, 0, false⟩, Q3, Q4]))) (atN 4 (ctl1 i42p4)) 16 (appH (sz := 7) qA7 rfl qAx [Q2, Q1, Q3, Q4] 1 104 y4_2 ([(⟨x0_1.1.f0, x0_1.1.f1, x0_1.1.f2, x0_1.1.f3, x0_1.1.f4, y4_0, x0_1.1.f6⟩ : S28)] : List S28) rfl rfl (by kernel_rfl)) fun x1_3 hx1_3 => ?_
  let Q5 : Blk := ⟨(x1_3).flatMap e29, 0, false⟩
  refine oLH 4 i42p5 [(0, .ptr 0 4 0), (2, .func 101 [.ptr 0 4 0] []), (7, .own 1 (x1_3).length 7)] (mkH [Q2, Q5, Q3, Q4]) ?_
  let E4 : Env := [(0, .ptr 0 4 0), (2, .func 101 [.ptr 0 4 0] []), (7, .own 1 (x1_3).length 7)]
  refine oR 2 (atN 1 (ctl1 i42p5)) ((17, .ptr 0 4 0) :: E4) ?_
  refine oX (fun (x2_1 : (Bool × Int)) => .bool x2_1.1) (fun x2_1 => [⟨[.str a1, w34 a2, .i x2_1.2, .i a4], 4, false⟩, Q5, Q3, Q4]) (atN 2 (ctl1 i42p5)) 18 [0] [] [] [] [0, 1] [.ptr 0 4 0, .str [59]] (qAb k ([59] : List Nat) a1 a2 x0_1.2 a4) (qAi k ([59] : List Nat) a1 a2 x0_1.2 a4) trivial (fun _ => trivial) ⟨u29 _, trivial⟩ fun x2_1 hx2_1 => ?_
  refine oR 1 i42p6 ((18, .bool x2_1.1) :: (17, .ptr 0 4 0) :: E4) ?_
  refine oS 18 (fun hb => ?_) (fun hb => ?_)
  ·refine oR 4 (atN 1 (ctl1 i42p7)) ((19, .ptr 0 4 0) :: (18, .bool true) :: (18, .bool x2_1.1) :: (17, .ptr 0 4 0) :: E4) ?_
   refine oN (fun (x3_1 : Ri12) => w9 x3_1.1) (fun x3_1 => [⟨[.str a1, w34 a2, .i x3_1.2, .i a4], 4, false⟩, Q5, Q3, Q4]) (atN 2 (ctl1 i42p7)) 20 [0] [] [] [.ptr 0 4 0] (qAl k a1 a2 x2_1.2 a4) trivial (fun _ => trivial) fun x3_1 hx3_1 => ?_
   refine oL 6 i42p2 [(0, .ptr 0 4 0), (1, w9 x3_1.1), (2, .func 101 [.ptr 0 4 0] []), (7, .own 1 (x1_3).length 7)] ?_
   refine qAc [⟨[.str a1, w34 a2, .i x3_1.2, .i a4], 4, false⟩, Q5] [Q3, Q4] (by kernel_rfl) rfl (by kernel_rfl) ⟨(by kernel_rfl), ⟨(qA3 _ (u29 _)), trivial⟩⟩ ?_
   exact ih x3_1.1 x3_1.2 x1_3
  ·exact oQF 8 [⟨[.str a1, w34 a2, .i x2_1.2, .i a4], 4, false⟩, Q5, Q3, Q4] 1 [] [.own 1 (x1_3).length 7] (w29 x1_3) (qAs qA7 qAg rfl rfl rfl .ps) trivial
def i42B (k : Nat) (F : Fns0) (a0 : (List (List Nat))) (a1 : (List Nat)) (a2 : (List S33)) (a3 : Int) (a4 : Int) : Option (Option Ri42) :=
 qMg k F a1 a2 a4 k a0 a3 ([] : List S28)
theorem qJ0 (k : Nat) (F : Fns0) (hF : FnsOk0 F) (a0 : (List (List Nat))) (a1 : (List Nat)) (a2 : (List S33)) (a3 : Int) (a4 : Int) (r : (Option Ri42)) (h : i42B k F a0 a1 a2 a3 a4 = some r) : CallT Try.prog 105 [.ptr 0 4 0, w9 a0, .func 101 [.ptr 0 4 0] []] (mkH [⟨[.str a1, w34 a2, .i a3, .i a4], 4, false⟩]) ((Xi42 a0 a1 a2 a3 a4).thr r) ((Xi42 a0 a1 a2 a3 a4).enc r) ((Xi42 a0 a1 a2 a3 a4).fin r) := by
 refine qA2 (Xi42 a0 a1 a2 a3 a4) Try.func105 (by kernel_rfl) (by kernel_rfl) rfl (t := i42B k F a0 a1 a2 a3 a4) ?_ h
 unfold i42B
 refine qA0 (eE := [(0, .ptr 0 4 0), (1, w9 a0), (2, .func 101 [.ptr 0 4 0] [])]) (by kernel_rfl) ?_
 let E1 : Env := [(7, .nils), (6, .nils), (0, .ptr 0 4 0), (1, w9 a0), (2, .func 101 [.ptr 0 4 0] [])]
 let Q1 : Blk := ⟨[.str a1, w34 a2, .i a3, .i a4], 4, false⟩
 refine oH 8 (atN 1 (ctl1 i42p1)) E1 (mkH [Q1]) ?_
 refine qEi [Q1] 7 7 rfl (by kernel_rfl) ?_
 refine oH 4 i42p2 ((7, .own 1 (([] : List S28)).length 7) :: E1) (mkH [Q1, ⟨(([] : List S28)).flatMap e29, 0, false⟩]) ?_
 refine oK [0, 1, 2, 7] [(0, .ptr 0 4 0), (1, w9 a0), (2, .func 101 [.ptr 0 4 0] []), (7, .own 1 (([] : List S28)).length 7)] ?_
 exact (qMf k F hF a0 a1 a2 a3 a4 k) a0 a3 ([] : List S28)
theorem i42B_ok (k : Nat) (F : Fns0) (hF : FnsOk0 F) : Pi42 (i42B k F) := fun a0 a1 a2 a3 a4 x h => qJ0 k F hF a0 a1 a2 a3 a4 (some x) h
theorem i42B_thr (k : Nat) (F : Fns0) (hF : FnsOk0 F) : Qi42 (i42B k F) := fun a0 a1 a2 a3 a4 h => ⟨_, qJ0 k F hF a0 a1 a2 a3 a4 none h⟩
def Xi43 (a0 : (List (List Nat))) (a1 : (List Nat)) (a2 : (List S33)) (a3 : Int) (a4 : Int) : Fx (Option Ri43) := ⟨Try.prog, cx, Try.f105, fun r => match r with | some r => .own 1 (r.2).length 7 | none => .top, 1, fun r => match r with | some r => (mkH [⟨[.str a1, w34 a2, .i r.1, .i a4], 4, false⟩, ⟨(r.2).flatMap e29, 0, false⟩]) | none => (mkH [⟨[.str a1, w34 a2, .i a3, .i a4], 4, false⟩]), cxTi, cxOrd, fun r => match r with | some _ => none | none => some (thrown, [0]), false⟩
def i43p0 : Pt := nav [0] (bodyAt Try.f105)
def i43p1 : Pt := nav [0, 0, 0, 0] i43p0
def i43p2 : Pt := nav [0, 0, 0, 0, 0] i43p1
def i43p3 : Pt := nav [0, 0, 0] i43p2
def i43p4 : Pt := nav [0, 0, 0] i43p3
def i43p5 : Pt := nav [0, 0, 0, 0] i43p4
def i43p6 : Pt := nav [0, 0] i43p5
def i43p7 : Pt := nav [1, 0] i43p6
def qH2 (k : Nat) (F : Fns0)  (a1 : (List Nat)) (a2 : (List S33)) (a4 : Int) (ih : (List (List Nat)) → Int → (List S28) → Option (Option Ri43)) : (List (List Nat)) → Int → (List S28) → Option (Option Ri43) :=
 fun (y4_0 : (List (List Nat))) (y4_1 : Int) (y4_2 : (List S28)) => bT (F.i45 a1 a2 y4_1 a4) fun x0_1 => (appS 104 y4_2 ([(⟨x0_1.1.f0, x0_1.1.f1, x0_1.1.f2, x0_1.1.f3, x0_1.1.f4, y4_0, x0_1.1.f6⟩ : S28)] : List S28)).bind fun x1_3 => bT (i7 k ([59] : List Nat) a1 a2 x0_1.2 a4) fun x2_1 => if x2_1.1 then ((i12 k a1 a2 x2_1.2 a4).bind fun x3_1 => ih x3_1.1 x3_1.2 x1_3) else (some (some (x2_1.2, x1_3)))
def qMe (k : Nat) (F : Fns0)  (a1 : (List Nat)) (a2 : (List S33)) (a4 : Int) (n : Nat) : (List (List Nat)) → Int → (List S28) → Option (Option Ri43) := lp (fun _ _ _ => none) (qH2 k F a1 a2 a4) n
theorem qMd (k : Nat) (F : Fns0) (hF : FnsOk0 F) (a0 : (List (List Nat))) (a1 : (List Nat)) (a2 : (List S33)) (a3 : Int) (a4 : Int)    : ∀ (n : Nat) (y4_0 : (List (List Nat))) (y4_1 : Int) (y4_2 : (List S28)), Ok (Xi43 a0 a1 a2 a3 a4) i43p2 [(0, .ptr 0 4 0), (1, w9 y4_0), (2, .func 100 [.ptr 0 4 0] []), (7, .own 1 (y4_2).length 7)] (mkH [⟨[.str a1, w34 a2, .i y4_1, .i a4], 4, false⟩, ⟨(y4_2).flatMap e29, 0, false⟩]) (qMe k F a1 a2 a4 n y4_0 y4_1 y4_2) := by
 intro n
 induction n with
 | zero => intro y4_0 y4_1 y4_2; exact ok_none
 | succ n ih =>
  intro y4_0 y4_1 y4_2
  show Ok _ _ _ _ (qH2 k F a1 a2 a4 (qMe k F a1 a2 a4 n) y4_0 y4_1 y4_2)
  unfold qH2
  let E2 : Env := [(9, .func 100 [.ptr 0 4 0] []), (0, .ptr 0 4 0), (1, w9 y4_0), (2, .func 100 [.ptr 0 4 0] []), (7, .own 1 (y4_2).length 7)]
  let Q1 : Blk := ⟨(y4_2).flatMap e29, 0, false⟩
  refine oH 2 (atN 1 (ctl1 i43p2)) E2 (mkH [⟨[.str a1, w34 a2, .i y4_1, .i a4], 4, false⟩, Q1]) ?_
  refine oX (fun (x0_1 : (S28 × Int)) => n29 x0_1.1) (fun x0_1 => [⟨[.str a1, w34 a2, .i x0_1.2, .i a4], 4, false⟩, Q1]) (atN 2 (ctl1 i43p2)) 10 [0] [] [] [0] [0, 1] [.ptr 0 4 0] (hF.i45_thr a1 a2 y4_1 a4) (hF.i45_ok a1 a2 y4_1 a4) trivial (fun _ => trivial) ⟨u29 _, trivial⟩ fun x0_1 hx0_1 => ?_
  let Q2 : Blk := ⟨[.str a1, w34 a2, .i x0_1.2, .i a4], 4, false⟩
  let Q3 : Blk := ⟨[.i x0_1.1.f0, .str x0_1.1.f1, q29 x0_1.1.f2, .bool x0_1.1.f3, .bool x0_1.1.f4, w9 y4_0, w9 x0_1.1.f6], 7, false⟩
  let Q4 : Blk := ⟨[.i x0_1.1.f0, .str x0_1.1.f1, q29 x0_1.1.f2, .bool x0_1.1.f3, .bool x0_1.1.f4, w9 y4_0, w9 x0_1.1.f6], 0, false⟩
  refine oH 14 (atN 3 (ctl1 i43p4)) ((15, .slice 3 7 0 1 7) :: (14, .agg [.i x0_1.1.f0, .str x0_1.1.f1, q29 x0_1.1.f2, .bool x0_1.1.f3, .bool x0_1.1.f4, w9 y4_0, w9 x0_1.1.f6]) :: (13, .own 1 (y4_2).length 7) :: (12, .ptr 2 7 5) :: (11, w9 y4_0) :: (8, .ptr 2 7 0) :: (10, n29 x0_1.1) :: E2) (mkH [Q2, Q1, Q3, Q4]) ?_
  refine oC (fun (x1_3 : (List S28)) => (.own 1 (x1_3).length 7, (mkH [Q2, ⟨(x1_3).flatMap e29, 0, false⟩, Q3, Q4]))) (atN 4 (ctl1 i43p4)) 16 (appH (sz := 7) qA7 rfl qAx [Q2, Q1, Q3, Q4] 1 104 y4_2 ([(⟨x0_1.1.f0, x0_1.1.f1, x0_1.1.f2, x0_1.1.f3, x0_1.1.f4, y4_0, x0_1.1.f6⟩ : S28)] : List S28) rfl rfl (by kernel_rfl)) fun x1_3 hx1_3 => ?_
  let Q5 : Blk := ⟨(x1_3).flatMap e29, 0, false⟩
  refine oLH 4 i43p5 [(0, .ptr 0 4 0), (2, .func 100 [.ptr 0 4 0] []), (7, .own 1 (x1_3).length 7)] (mkH [Q2, Q5, Q3, Q4]) ?_
  let E4 : Env := [(0, .ptr 0 4 0), (2, .func 100 [.ptr 0 4 0] []), (7, .own 1 (x1_3).length 7)]
  refine oR 2 (atN 1 (ctl1 i43p5)) ((17, .ptr 0 4 0) :: E4) ?_
  refine oX (fun (x2_1 : (Bool × Int)) => .bool x2_1.1) (fun x2_1 => [⟨[.str a1, w34 a2, .i x2_1.2, .i a4], 4, false⟩, Q5, Q3, Q4]) (atN 2 (ctl1 i43p5)) 18 [0] [] [] [] [0, 1] [.ptr 0 4 0, .str [59]] (qAb k ([59] : List Nat) a1 a2 x0_1.2 a4) (qAi k ([59] : List Nat) a1 a2 x0_1.2 a4) trivial (fun _ => trivial) ⟨u29 _, trivial⟩ fun x2_1 hx2_1 => ?_
  refine oR 1 i43p6 ((18, .bool x2_1.1) :: (17, .ptr 0 4 0) :: E4) ?_
  refine oS 18 (fun hb => ?_) (fun hb => ?_)
  ·refine oR 4 (atN 1 (ctl1 i43p7)) ((19, .ptr 0 4 0) :: (18, .bool true) :: (18, .bool x2_1.1) :: (17, .ptr 0 4 0) :: E4) ?_
   refine oN (fun (x3_1 : Ri12) => w9 x3_1.1) (fun x3_1 => [⟨[.str a1, w34 a2, .i x3_1.2, .i a4], 4, false⟩, Q5, Q3, Q4]) (atN 2 (ctl1 i43p7)) 20 [0] [] [] [.ptr 0 4 0] (qAl k a1 a2 x2_1.2 a4) trivial (fun _ => trivial) fun x3_1 hx3_1 => ?_
   refine oL 6 i43p2 [(0, .ptr 0 4 0), (1, w9 x3_1.1), (2, .func 100 [.ptr 0 4 0] []), (7, .own 1 (x1_3).length 7)] ?_
   refine qAc [⟨[.str a1, w34 a2, .i x3_1.2, .i a4], 4, false⟩, Q5] [Q3, Q4] (by kernel_rfl) rfl (by kernel_rfl) ⟨(by kernel_rfl), ⟨(qA3 _ (u29 _)), trivial⟩⟩ ?_
   exact ih x3_1.1 x3_1.2 x1_3
  ·refine oR 8 .fin ((6, .own 1 (x1_3).length 7) :: (21, .own 1 (x1_3).length 7) :: (18, .bool false) :: (18, .bool x2_1.1) :: (17, .ptr 0 4 0) :: E4) ?_
   exact qBp (r := some (x2_1.2, x1_3)) (xs := [.own 1 (x1_3).length 7]) [⟨[.str a1, w34 a2, .i x2_1.2, .i a4], 4, false⟩, Q5] [Q3, Q4] (by kernel_rfl) (by kernel_rfl) (by kernel_rfl) (by kernel_rfl) (by kernel_rfl) ⟨(by kernel_rfl), ⟨(qA3 _ (u29 _)), trivial⟩⟩ (by kernel_rfl) (by kernel_rfl)
def i43B (k : Nat) (F : Fns0) (a0 : (List (List Nat))) (a1 : (List Nat)) (a2 : (List S33)) (a3 : Int) (a4 : Int) : Option (Option Ri43) :=
 qMe k F a1 a2 a4 k a0 a3 ([] : List S28)
theorem qJ (k : Nat) (F : Fns0) (hF : FnsOk0 F) (a0 : (List (List Nat))) (a1 : (List Nat)) (a2 : (List S33)) (a3 : Int) (a4 : Int) (r : (Option Ri43)) (h : i43B k F a0 a1 a2 a3 a4 = some r) : CallT Try.prog 105 [.ptr 0 4 0, w9 a0, .func 100 [.ptr 0 4 0] []] (mkH [⟨[.str a1, w34 a2, .i a3, .i a4], 4, false⟩]) ((Xi43 a0 a1 a2 a3 a4).thr r) ((Xi43 a0 a1 a2 a3 a4).enc r) ((Xi43 a0 a1 a2 a3 a4).fin r) := by
 refine qA2 (Xi43 a0 a1 a2 a3 a4) Try.func105 (by kernel_rfl) (by kernel_rfl) rfl (t := i43B k F a0 a1 a2 a3 a4) ?_ h
 unfold i43B
 refine qA0 (eE := [(0, .ptr 0 4 0), (1, w9 a0), (2, .func 100 [.ptr 0 4 0] [])]) (by kernel_rfl) ?_
 let E1 : Env := [(7, .nils), (6, .nils), (0, .ptr 0 4 0), (1, w9 a0), (2, .func 100 [.ptr 0 4 0] [])]
 let Q1 : Blk := ⟨[.str a1, w34 a2, .i a3, .i a4], 4, false⟩
 refine oH 8 (atN 1 (ctl1 i43p1)) E1 (mkH [Q1]) ?_
 refine qEi [Q1] 7 7 rfl (by kernel_rfl) ?_
 refine oH 4 i43p2 ((7, .own 1 (([] : List S28)).length 7) :: E1) (mkH [Q1, ⟨(([] : List S28)).flatMap e29, 0, false⟩]) ?_
 refine oK [0, 1, 2, 7] [(0, .ptr 0 4 0), (1, w9 a0), (2, .func 100 [.ptr 0 4 0] []), (7, .own 1 (([] : List S28)).length 7)] ?_
 exact (qMd k F hF a0 a1 a2 a3 a4 k) a0 a3 ([] : List S28)
theorem i43B_ok (k : Nat) (F : Fns0) (hF : FnsOk0 F) : Pi43 (i43B k F) := fun a0 a1 a2 a3 a4 x h => qJ k F hF a0 a1 a2 a3 a4 (some x) h
theorem i43B_thr (k : Nat) (F : Fns0) (hF : FnsOk0 F) : Qi43 (i43B k F) := fun a0 a1 a2 a3 a4 h => ⟨_, qJ k F hF a0 a1 a2 a3 a4 none h⟩
def Xi44 (a0 : (List Nat)) (a1 : (List S33)) (a2 : Int) (a3 : Int) : Fx (Option (S28 × Int)) := ⟨Try.prog, cx, Try.f106, fun r => match r with | some r => .agg [.i r.1.f0, .str r.1.f1, q29 r.1.f2, .bool r.1.f3, .bool r.1.f4, w9 r.1.f5, w9 r.1.f6] | none => .top, 2, fun r => match r with | some r => (mkH [⟨[.str a0, w34 a1, .i r.2, .i a3], 4, false⟩, ⟨[.ptr 0 4 0], 1, false⟩]) | none => (mkH [⟨[.str a0, w34 a1, .i a2, .i a3], 4, false⟩, ⟨[.ptr 0 4 0], 1, false⟩]), cxTi, cxOrd, fun r => match r with | some _ => none | none => some (thrown, [0, 1]), false⟩
def i44p0 : Pt := nav [0] (bodyAt Try.f106)
def i44p1 : Pt := nav [0, 0, 0] i44p0
def i44B (k : Nat) (F : Fns0) (a0 : (List Nat)) (a1 : (List S33)) (a2 : Int) (a3 : Int) : Option (Option (S28 × Int)) :=
 bT (F.i48 ([] : List Nat) a0 a1 a2 a3) fun x0_1 => some (some ((⟨x0_1.1.f0, x0_1.1.f1, x0_1.1.f2, x0_1.1.f3, x0_1.1.f4, x0_1.1.f5, x0_1.1.f6⟩ : S28), x0_1.2))
theorem qIz (k : Nat) (F : Fns0) (hF : FnsOk0 F) (a0 : (List Nat)) (a1 : (List S33)) (a2 : Int) (a3 : Int) (r : (Option (S28 × Int))) (h : i44B k F a0 a1 a2 a3 = some r) : CallT Try.prog 106 [.ptr 1 1 0] (mkH [⟨[.str a0, w34 a1, .i a2, .i a3], 4, false⟩, ⟨[.ptr 0 4 0], 1, false⟩]) ((Xi44 a0 a1 a2 a3).thr r) ((Xi44 a0 a1 a2 a3).enc r) ((Xi44 a0 a1 a2 a3).fin r) := by
 refine qA2 (Xi44 a0 a1 a2 a3) Try.func106 (by kernel_rfl) (by kernel_rfl) rfl (t := i44B k F a0 a1 a2 a3) ?_ h
 unfold i44B
 refine qA0 (eE := [(0, .ptr 1 1 0)]) (by kernel_rfl) ?_
 let Q1 : Blk := ⟨[.i 0, .str [], .nils, .bool false, .bool false, .nils, .nils], 0, false⟩
 refine oH 7 (atN 1 (ctl1 i44p1)) [(2, .ptr 0 4 0), (1, .ptr 2 7 0), (0, .ptr 1 1 0)] (mkH [⟨[.str a0, w34 a1, .i a2, .i a3], 4, false⟩, ⟨[.ptr 0 4 0], 1, false⟩, Q1]) ?_
 refine oX (fun (x0_1 : (S28 × Int)) => n29 x0_1.1) (fun x0_1 => [⟨[.str a0, w34 a1, .i x0_1.2, .i a3], 4, false⟩, ⟨[.ptr 0 4 0], 1, false⟩, Q1]) (atN 2 (ctl1 i44p1)) 3 [0] [] [] [0, 1] [] [.ptr 0 4 0, .str []] (hF.i48_thr ([] : List Nat) a0 a1 a2 a3) (hF.i48_ok ([] : List Nat) a0 a1 a2 a3) trivial (fun _ => trivial) trivial fun x0_1 hx0_1 => ?_
 exact oQF 3 [⟨[.str a0, w34 a1, .i x0_1.2, .i a3], 4, false⟩, ⟨[.ptr 0 4 0], 1, false⟩, ⟨e29 x0_1.1, 7, false⟩] 2 [] [n29 x0_1.1] (n29 x0_1.1) .ps trivial
theorem i44B_ok (k : Nat) (F : Fns0) (hF : FnsOk0 F) : Pi44 (i44B k F) := fun a0 a1 a2 a3 x h => qIz k F hF a0 a1 a2 a3 (some x) h
theorem i44B_thr (k : Nat) (F : Fns0) (hF : FnsOk0 F) : Qi44 (i44B k F) := fun a0 a1 a2 a3 h => ⟨_, qIz k F hF a0 a1 a2 a3 none h⟩
def Xi45 (a0 : (List Nat)) (a1 : (List S33)) (a2 : Int) (a3 : Int) : Fx (Option (S28 × Int)) := ⟨Try.prog, cx, Try.f100, fun r => match r with | some r => .agg [.i r.1.f0, .str r.1.f1, q29 r.1.f2, .bool r.1.f3, .bool r.1.f4, w9 r.1.f5, w9 r.1.f6] | none => .top, 1, fun r => match r with | some r => (mkH [⟨[.str a0, w34 a1, .i r.2, .i a3], 4, false⟩]) | none => (mkH [⟨[.str a0, w34 a1, .i a2, .i a3], 4, false⟩]), cxTi, cxOrd, fun r => match r with | some _ => none | none => some (thrown, [0]), false⟩
def i45p0 : Pt := nav [0] (bodyAt Try.f100)
def i45p1 : Pt := nav [0, 0, 0] i45p0
def i45p2 : Pt := nav [0, 0, 0] i45p1
def i45B (k : Nat) (F : Fns0) (a0 : (List Nat)) (a1 : (List S33)) (a2 : Int) (a3 : Int) : Option (Option (S28 × Int)) :=
 bT (F.i5 (1 : Int) a0 a1 a2 a3) fun x0_1 => bT (F.i49 a0 a1 x0_1.2 a3) fun x1_3 => bT (F.i47 ([] : List Nat) (23 : Int) ([] : List Nat) (⟨(([(⟨x0_1.1.f0, x0_1.1.f1, x0_1.1.f2, x0_1.1.f3, x0_1.1.f4, x0_1.1.f5, x0_1.1.f6⟩ : S28)] : List S28)).length, (([(⟨x0_1.1.f0, x0_1.1.f1, x0_1.1.f2, x0_1.1.f3, x0_1.1.f4, x0_1.1.f5, x0_1.1.f6⟩ : S28)] : List S28)).flatMap e29⟩ : Raw) false false ([] : List (List Nat)) ([] : List (List Nat)) x1_3.1.f0 x1_3.1.f1 x1_3.1.f2 x1_3.1.f3 x1_3.1.f4 x1_3.1.f5 x1_3.1.f6 a0 a1 x1_3.2 a3) fun x1_4 => some (some ((⟨x1_4.1.f0, x1_4.1.f1, x1_4.1.f2, x1_4.1.f3, x1_4.1.f4, x1_4.1.f5, x1_4.1.f6⟩ : S28), x1_4.2))
theorem qIy (k : Nat) (F : Fns0) (hF : FnsOk0 F) (a0 : (List Nat)) (a1 : (List S33)) (a2 : Int) (a3 : Int) (r : (Option (S28 × Int))) (h : i45B k F a0 a1 a2 a3 = some r) : CallT Try.prog 100 [.ptr 0 4 0] (mkH [⟨[.str a0, w34 a1, .i a2, .i a3], 4, false⟩]) ((Xi45 a0 a1 a2 a3).thr r) ((Xi45 a0 a1 a2 a3).enc r) ((Xi45 a0 a1 a2 a3).fin r) := by
 refine qA2 (Xi45 a0 a1 a2 a3) Try.func100 (by kernel_rfl) (by kernel_rfl) rfl (t := i45B k F a0 a1 a2 a3) ?_ h
 unfold i45B
 refine qA0 (eE := [(0, .ptr 0 4 0)]) (by kernel_rfl) ?_
 let Q1 : Blk := ⟨[.str a0, w34 a1, .i a2, .i a3], 4, false⟩
 let Q2 : Blk := ⟨[.i 0, .str [], .nils, .bool false, .bool false, .nils, .nils], 0, false⟩
 refine oH 7 (atN 1 (ctl1 i45p1)) [(4, .ptr 0 4 0), (2, .ptr 1 7 0), (0, .ptr 0 4 0)] (mkH [Q1, Q2]) ?_
 refine oX (fun (x0_1 : (S28 × Int)) => n29 x0_1.1) (fun x0_1 => [⟨[.str a0, w34 a1, .i x0_1.2, .i a3], 4, false⟩, Q2]) (atN 2 (ctl1 i45p1)) 5 [0] [] [] [0] [] [.ptr 0 4 0, .i 1] (hF.i5_thr (1 : Int) a0 a1 a2 a3) (hF.i5_ok (1 : Int) a0 a1 a2 a3) trivial (fun _ => trivial) trivial fun x0_1 hx0_1 => ?_
 let Q3 : Blk := ⟨[.str a0, w34 a1, .i x0_1.2, .i a3], 4, false⟩
 refine oH 1 (atN 3 (ctl1 i45p1)) [(6, .slice 2 7 0 1 7), (5, n29 x0_1.1), (4, .ptr 0 4 0), (2, .ptr 1 7 0), (0, .ptr 0 4 0)] (mkH [Q3, Q2, ⟨e29 x0_1.1, 0, false⟩]) ?_
 refine oZ 6 2 1 7 [.i x0_1.1.f0, .str x0_1.1.f1, q29 x0_1.1.f2, .bool x0_1.1.f3, .bool x0_1.1.f4, w9 x0_1.1.f5, w9 x0_1.1.f6] [0, 2, 4, 5] [] trivial ?_
 let Q4 : Blk := ⟨[.i 23, .str [], w29 ([x0_1.1] : List S28), .bool false, .bool false, .nils, .nils], 7, false⟩
 refine oH 5 i45p2 [(3, .ptr 3 7 0), (7, .agg [.i 23, .str [], w29 ([x0_1.1] : List S28), .bool false, .bool false, .nils, .nils]), (6, w29 ([x0_1.1] : List S28)), (0, .ptr 0 4 0), (2, .ptr 1 7 0), (4, .ptr 0 4 0), (5, n29 x0_1.1)] (mkH [Q3, Q2, ⟨[], 0, false⟩, Q4]) ?_
 refine qC4 (fun h => ?_) (fun x1_3 hx1_3 => ?_)
 ·let E3 : Env := [(10, .ptr 0 4 0), (9, .agg [.i 23, .str [], w29 ([x0_1.1] : List S28), .bool false, .bool false, .nils, .nils]), (8, .ptr 0 4 0), (3, .ptr 3 7 0), (7, .agg [.i 23, .str [], w29 ([x0_1.1] : List S28), .bool false, .bool false, .nils, .nils]), (6, w29 ([x0_1.1] : List S28)), (0, .ptr 0 4 0), (2, .ptr 1 7 0), (4, .ptr 0 4 0), (5, n29 x0_1.1)]
  exact qAn (eE := ((12, .top) :: (11, .top) :: E3)) ⟨[], [(0, 0, 0), (0, 0, 1), (0, 0, 0), (4, 0, 0), (15, 0, 0), (31, 0, 0)], 3, thrown, [0], (mkH [Q3, Q2, ⟨[], 0, false⟩, Q4])⟩ (hs := [(mkH [Q3, Q2, ⟨[], 0, false⟩, Q4]), (mkH [Q3, Q2, ⟨[], 0, false⟩, Q4]), (mkH [Q3, Q2, ⟨[], 0, false⟩, Q4])]) (LX := [Q1]) (L := [Q3, Q2, ⟨[], 0, false⟩, Q4]) rfl rfl rfl (by kernel_rfl) rfl ⟨.inl rfl, trivial⟩ (by kernel_rfl) (by kernel_rfl) (by kernel_rfl) (by kernel_rfl) (qAa 3 (l' := (opsAt i45p2).toList.drop 3) (eE := E3) (H' := (mkH [Q3, Q2, ⟨[], 0, false⟩, Q4])) (hs := []) (by kernel_rfl) (qAm (l' := (opsAt i45p2).toList.drop 4) (eE := ((11, .top) :: E3)) (hs := [(mkH [Q3, Q2, ⟨[], 0, false⟩, Q4])]) (fi := 109) (args := [.ptr 0 4 0]) (by kernel_rfl) (by kernel_rfl) (frS 0 (M := [Q3, Q2, ⟨[], 0, false⟩, Q4]) (rs := [0]) (ms := []) (mv := []) (mm := []) (D := [0]) (xs' := [.ptr 0 4 0]) (.refl) (hF.i49_thr a0 a1 x0_1.2 a3 h) trivial trivial (by kernel_rfl)) (by kernel_rfl) (qA1 (l' := (opsAt i45p2).toList.drop 5) (eE := ((12, .top) :: (11, .top) :: E3)) (hs := [(mkH [Q3, Q2, ⟨[], 0, false⟩, Q4])]) (by kernel_rfl) (by kernel_rfl) (qA1 (l' := (opsAt i45p2).toList.drop 6) (eE := ((12, .top) :: (11, .top) :: E3)) (hs := [(mkH [Q3, Q2, ⟨[], 0, false⟩, Q4])]) (by kernel_rfl) (by kernel_rfl) (.nil))))) (by kernel_rfl) (by kernel_rfl)
 ·refine qC4 (fun h => ?_) (fun x1_4 hx1_4 => ?_)
  ·let E3 : Env := [(10, .ptr 0 4 0), (9, .agg [.i 23, .str [], w29 ([x0_1.1] : List S28), .bool false, .bool false, .nils, .nils]), (8, .ptr 0 4 0), (3, .ptr 3 7 0), (7, .agg [.i 23, .str [], w29 ([x0_1.1] : List S28), .bool false, .bool false, .nils, .nils]), (6, w29 ([x0_1.1] : List S28)), (0, .ptr 0 4 0), (2, .ptr 1 7 0), (4, .ptr 0 4 0), (5, n29 x0_1.1)]
   let Q5 : Blk := ⟨[.str a0, w34 a1, .i x1_3.2, .i a3], 4, false⟩
   exact qAn (eE := ((12, .top) :: (11, n29 x1_3.1) :: E3)) ⟨[], [(0, 0, 0), (0, 0, 1), (0, 0, 0), (4, 0, 0), (15, 0, 0), (31, 0, 0)], 4, thrown, [0], (mkH [Q5, Q2, ⟨[], 0, false⟩, Q4])⟩ (hs := [(mkH [Q5, Q2, ⟨[], 0, false⟩, Q4]), (mkH [Q5, Q2, ⟨[], 0, false⟩, Q4]), (mkH [Q5, Q2, ⟨[], 0, false⟩, Q4])]) (LX := [Q1]) (L := [Q5, Q2, ⟨[], 0, false⟩, Q4]) rfl rfl rfl (by kernel_rfl) rfl ⟨.inl rfl, trivial⟩ (by kernel_rfl) (by kernel_rfl) (by kernel_rfl) (by kernel_rfl) (qAa 3 (l' := (opsAt i45p2).toList.drop 3) (eE := E3) (H' := (mkH [Q3, Q2, ⟨[], 0, false⟩, Q4])) (hs := []) (by kernel_rfl) (qA4 (l' := (opsAt i45p2).toList.drop 4) (eE := ((11, n29 x1_3.1) :: E3)) (hs := [(mkH [Q5, Q2, ⟨[], 0, false⟩, Q4])]) (H' := (mkH [Q5, Q2, ⟨[], 0, false⟩, Q4])) (fi := 109) (args := [.ptr 0 4 0]) (v := n29 x1_3.1) (by kernel_rfl) (frC (rs := [0]) (ms := []) (ms' := []) (hF.i49_ok a0 a1 x0_1.2 a3 x1_3 hx1_3) trivial trivial (by kernel_rfl)) (by kernel_rfl) (qAm (l' := (opsAt i45p2).toList.drop 5) (eE := ((12, .top) :: (11, n29 x1_3.1) :: E3)) (hs := [(mkH [Q5, Q2, ⟨[], 0, false⟩, Q4])]) (fi := 108) (args := [.ptr 0 4 0, .str [], .agg [.i 23, .str [], w29 ([x0_1.1] : List S28), .bool false, .bool false, .nils, .nils], n29 x1_3.1]) (by kernel_rfl) (by kernel_rfl) (frS 0 (M := [Q5, Q2, ⟨[], 0, false⟩, Q4]) (rs := [0]) (ms := []) (mv := []) (mm := []) (D := [0]) (xs' := [.ptr 0 4 0, .str [], .agg [.i 23, .str [], w29 ([x0_1.1] : List S28), .bool false, .bool false, w9 ([] : List (List Nat)), w9 ([] : List (List Nat))], n29 x1_3.1]) (.cons (.cons (.agg (.cons (.cons (.cons (.cons (.cons (.nil (.nil (.refl)))))))) (.refl)))) (hF.i47_thr ([] : List Nat) (23 : Int) ([] : List Nat) (⟨(([x0_1.1] : List S28)).length, (([x0_1.1] : List S28)).flatMap e29⟩ : Raw) false false ([] : List (List Nat)) ([] : List (List Nat)) x1_3.1.f0 x1_3.1.f1 x1_3.1.f2 x1_3.1.f3 x1_3.1.f4 x1_3.1.f5 x1_3.1.f6 a0 a1 x1_3.2 a3 h) trivial trivial (by kernel_rfl)) (by kernel_rfl) (qA1 (l' := (opsAt i45p2).toList.drop 6) (eE := ((12, .top) :: (11, n29 x1_3.1) :: E3)) (hs := [(mkH [Q5, Q2, ⟨[], 0, false⟩, Q4])]) (by kernel_rfl) (by kernel_rfl) (.nil))))) (by kernel_rfl) (by kernel_rfl)
  ·let E3 : Env := [(10, .ptr 0 4 0), (9, .agg [.i 23, .str [], w29 ([x0_1.1] : List S28), .bool false, .bool false, .nils, .nils]), (8, .ptr 0 4 0), (3, .ptr 3 7 0), (7, .agg [.i 23, .str [], w29 ([x0_1.1] : List S28), .bool false, .bool false, .nils, .nils]), (6, w29 ([x0_1.1] : List S28)), (0, .ptr 0 4 0), (2, .ptr 1 7 0), (4, .ptr 0 4 0), (5, n29 x0_1.1)]
   let Q6 : Blk := ⟨[.str a0, w34 a1, .i x1_4.2, .i a3], 4, false⟩
   let Q7 : Blk := ⟨[.str a0, w34 a1, .i x1_3.2, .i a3], 4, false⟩
   refine oD (H' := (mkH [Q6, ⟨e29 x1_4.1, 7, false⟩, ⟨[], 0, false⟩, Q4])) (nav [0] i45p2) ((12, n29 x1_4.1) :: (11, n29 x1_3.1) :: E3) [(mkH [Q7, Q2, ⟨[], 0, false⟩, Q4]), (mkH [Q6, Q2, ⟨[], 0, false⟩, Q4]), (mkH [Q6, ⟨e29 x1_4.1, 7, false⟩, ⟨[], 0, false⟩, Q4])] ⟨[], [(0, 0, 0), (0, 0, 1), (0, 0, 0), (4, 0, 0), (15, 0, 0), (31, 0, 0)], 6, thrown, [], H0⟩ (oDr 3 3 E3 (qA4 (l' := (opsAt i45p2).toList.drop 4) (eE := ((11, n29 x1_3.1) :: E3)) (hs := [(mkH [Q7, Q2, ⟨[], 0, false⟩, Q4])]) (H' := (mkH [Q7, Q2, ⟨[], 0, false⟩, Q4])) (fi := 109) (args := [.ptr 0 4 0]) (v := n29 x1_3.1) (by kernel_rfl) (frC (rs := [0]) (ms := []) (ms' := []) (hF.i49_ok a0 a1 x0_1.2 a3 x1_3 hx1_3) trivial trivial (by kernel_rfl)) (by kernel_rfl) (qA4 (l' := (opsAt i45p2).toList.drop 5) (eE := ((12, n29 x1_4.1) :: (11, n29 x1_3.1) :: E3)) (hs := [(mkH [Q6, Q2, ⟨[], 0, false⟩, Q4])]) (H' := (mkH [Q6, Q2, ⟨[], 0, false⟩, Q4])) (fi := 108) (args := [.ptr 0 4 0, .str [], .agg [.i 23, .str [], w29 ([x0_1.1] : List S28), .bool false, .bool false, .nils, .nils], n29 x1_3.1]) (v := n29 x1_4.1) (by kernel_rfl) (frW 0 [Q7, Q2, ⟨[], 0, false⟩, Q4] (rs := [0]) (ms := []) (ms' := []) (mv := []) (xs' := [.ptr 0 4 0, .str [], .agg [.i 23, .str [], w29 ([x0_1.1] : List S28), .bool false, .bool false, w9 ([] : List (List Nat)), w9 ([] : List (List Nat))], n29 x1_3.1]) (.cons (.cons (.agg (.cons (.cons (.cons (.cons (.cons (.nil (.nil (.refl)))))))) (.refl)))) (hF.i47_ok ([] : List Nat) (23 : Int) ([] : List Nat) (⟨(([x0_1.1] : List S28)).length, (([x0_1.1] : List S28)).flatMap e29⟩ : Raw) false false ([] : List (List Nat)) ([] : List (List Nat)) x1_3.1.f0 x1_3.1.f1 x1_3.1.f2 x1_3.1.f3 x1_3.1.f4 x1_3.1.f5 x1_3.1.f6 a0 a1 x1_3.2 a3 x1_4 hx1_4) trivial trivial (by kernel_rfl)) (by kernel_rfl) (oDh 1 6 ((12, n29 x1_4.1) :: (11, n29 x1_3.1) :: E3) (mkH [Q6, ⟨e29 x1_4.1, 7, false⟩, ⟨[], 0, false⟩, Q4]) [(mkH [Q6, ⟨e29 x1_4.1, 7, false⟩, ⟨[], 0, false⟩, Q4])] .nil)))) ?_
   exact oQF 1 [Q6, ⟨e29 x1_4.1, 7, false⟩, ⟨[], 0, false⟩, Q4] 1 [] [n29 x1_4.1] (n29 x1_4.1) .ps trivial
theorem i45B_ok (k : Nat) (F : Fns0) (hF : FnsOk0 F) : Pi45 (i45B k F) := fun a0 a1 a2 a3 x h => qIy k F hF a0 a1 a2 a3 (some x) h
theorem i45B_thr (k : Nat) (F : Fns0) (hF : FnsOk0 F) : Qi45 (i45B k F) := fun a0 a1 a2 a3 h => ⟨_, qIy k F hF a0 a1 a2 a3 none h⟩
def Xi46 (a0 : (List Nat)) (a1 : (List S33)) (a2 : Int) (a3 : Int) : Fx (Option (S28 × Int)) := ⟨Try.prog, cx, Try.f101, fun r => match r with | some r => .agg [.i r.1.f0, .str r.1.f1, q29 r.1.f2, .bool r.1.f3, .bool r.1.f4, w9 r.1.f5, w9 r.1.f6] | none => .top, 1, fun r => match r with | some r => (mkH [⟨[.str a0, w34 a1, .i r.2, .i a3], 4, false⟩]) | none => (mkH [⟨[.str a0, w34 a1, .i a2, .i a3], 4, false⟩]), cxTi, cxOrd, fun r => match r with | some _ => none | none => some (thrown, [0]), false⟩
def i46p0 : Pt := nav [0] (bodyAt Try.f101)
def i46p1 : Pt := nav [0, 0, 0] i46p0
def i46B (k : Nat) (F : Fns0) (a0 : (List Nat)) (a1 : (List S33)) (a2 : Int) (a3 : Int) : Option (Option (S28 × Int)) :=
 bT (F.i50 a0 a1 a2 a3) fun x0_3 => bT (F.i47 ([] : List Nat) (23 : Int) ([] : List Nat) (⟨(([] : List S28)).length, (([] : List S28)).flatMap e29⟩ : Raw) false false ([] : List (List Nat)) ([] : List (List Nat)) x0_3.1.f0 x0_3.1.f1 x0_3.1.f2 x0_3.1.f3 x0_3.1.f4 x0_3.1.f5 x0_3.1.f6 a0 a1 x0_3.2 a3) fun x0_4 => some (some ((⟨x0_4.1.f0, x0_4.1.f1, x0_4.1.f2, x0_4.1.f3, x0_4.1.f4, x0_4.1.f5, x0_4.1.f6⟩ : S28), x0_4.2))
theorem qIx (k : Nat) (F : Fns0) (hF : FnsOk0 F) (a0 : (List Nat)) (a1 : (List S33)) (a2 : Int) (a3 : Int) (r : (Option (S28 × Int))) (h : i46B k F a0 a1 a2 a3 = some r) : CallT Try.prog 101 [.ptr 0 4 0] (mkH [⟨[.str a0, w34 a1, .i a2, .i a3], 4, false⟩]) ((Xi46 a0 a1 a2 a3).thr r) ((Xi46 a0 a1 a2 a3).enc r) ((Xi46 a0 a1 a2 a3).fin r) := by
 refine qA2 (Xi46 a0 a1 a2 a3) Try.func101 (by kernel_rfl) (by kernel_rfl) rfl (t := i46B k F a0 a1 a2 a3) ?_ h
 unfold i46B
 refine qA0 (eE := [(0, .ptr 0 4 0)]) (by kernel_rfl) ?_
 let Q1 : Blk := ⟨[.i 0, .str [], .nils, .bool false, .bool false, .nils, .nils], 0, false⟩
 refine oH 9 (atN 3 (ctl1 i46p1)) [(5, .ptr 0 4 0), (4, .agg [.i 23, .str [], .nils, .bool false, .bool false, .nils, .nils]), (3, .ptr 0 4 0), (2, .ptr 1 7 0), (0, .ptr 0 4 0)] (mkH [⟨[.str a0, w34 a1, .i a2, .i a3], 4, false⟩, Q1]) ?_
 refine oX (fun (x0_3 : (S28 × Int)) => n29 x0_3.1) (fun x0_3 => [⟨[.str a0, w34 a1, .i x0_3.2, .i a3], 4, false⟩, Q1]) (atN 4 (ctl1 i46p1)) 6 [0] [] [] [0] [] [.ptr 0 4 0] (hF.i50_thr a0 a1 a2 a3) (hF.i50_ok a0 a1 a2 a3) trivial (fun _ => trivial) trivial fun x0_3 hx0_3 => ?_
 refine oXW 0 [⟨[.str a0, w34 a1, .i x0_3.2, .i a3], 4, false⟩, Q1] (fun (x0_4 : (S28 × Int)) => n29 x0_4.1) (fun x0_4 => [⟨[.str a0, w34 a1, .i x0_4.2, .i a3], 4, false⟩, Q1]) (atN 5 (ctl1 i46p1)) 7 [0] [] [] [0] [] [] [.ptr 0 4 0, .str [], .agg [.i 23, .str [], .nils, .bool false, .bool false, .nils, .nils], n29 x0_3.1] [.ptr 0 4 0, .str [], .agg [.i 23, .str [], w29 ([] : List S28), .bool false, .bool false, w9 ([] : List (List Nat)), w9 ([] : List (List Nat))], n29 x0_3.1] (.cons (.cons (.agg (.cons (.cons (.nil (.cons (.cons (.nil (.nil (.refl)))))))) (.refl)))) (hF.i47_thr ([] : List Nat) (23 : Int) ([] : List Nat) (⟨(([] : List S28)).length, (([] : List S28)).flatMap e29⟩ : Raw) false false ([] : List (List Nat)) ([] : List (List Nat)) x0_3.1.f0 x0_3.1.f1 x0_3.1.f2 x0_3.1.f3 x0_3.1.f4 x0_3.1.f5 x0_3.1.f6 a0 a1 x0_3.2 a3) (hF.i47_ok ([] : List Nat) (23 : Int) ([] : List Nat) (⟨(([] : List S28)).length, (([] : List S28)).flatMap e29⟩ : Raw) false false ([] : List (List Nat)) ([] : List (List Nat)) x0_3.1.f0 x0_3.1.f1 x0_3.1.f2 x0_3.1.f3 x0_3.1.f4 x0_3.1.f5 x0_3.1.f6 a0 a1 x0_3.2 a3) trivial (fun _ => trivial) trivial fun x0_4 hx0_4 => ?_
 exact oQF 3 [⟨[.str a0, w34 a1, .i x0_4.2, .i a3], 4, false⟩, ⟨e29 x0_4.1, 7, false⟩] 1 [] [n29 x0_4.1] (n29 x0_4.1) .ps trivial
theorem i46B_ok (k : Nat) (F : Fns0) (hF : FnsOk0 F) : Pi46 (i46B k F) := fun a0 a1 a2 a3 x h => qIx k F hF a0 a1 a2 a3 (some x) h
theorem i46B_thr (k : Nat) (F : Fns0) (hF : FnsOk0 F) : Qi46 (i46B k F) := fun a0 a1 a2 a3 h => ⟨_, qIx k F hF a0 a1 a2 a3 none h⟩
def Xi47 (a0 : (List Nat)) (a1 : Int) (a2 : (List Nat)) (a3 : Raw) (a4 : Bool) (a5 : Bool) (a6 : (List (List Nat))) (a7 : (List (List Nat))) (a8 : Int) (a9 : (List Nat)) (a10 : Raw) (a11 : Bool) (a12 : Bool) (a13 : (List (List Nat))) (a14 : (List (List Nat))) (a15 : (List Nat)) (a16 : (List S33)) (a17 : Int) (a18 : Int) : Fx (Option (S28 × Int)) := ⟨Try.prog, cx, Try.f108, fun r => match r with | some r => .agg [.i r.1.f0, .str r.1.f1, q29 r.1.f2, .bool r.1.f3, .bool r.1.f4, w9 r.1.f5, w9 r.1.f6] | none => .top, 1, fun r => match r with | some r => (mkH [⟨[.str a15, w34 a16, .i r.2, .i a18], 4, false⟩]) | none => (mkH [⟨[.str a15, w34 a16, .i a17, .i a18], 4, false⟩]), cxTi, cxOrd, fun r => match r with | some _ => none | none => some (thrown, [0]), false⟩
def i47p0 : Pt := nav [0] (bodyAt Try.f108)
def i47p1 : Pt := nav [0, 0, 0] i47p0
def i47p2 : Pt := nav [0, 0, 0] i47p1
def i47p3 : Pt := nav [0, 0, 0] i47p2
def i47B (k : Nat) (F : Fns0) (a0 : (List Nat)) (a1 : Int) (a2 : (List Nat)) (a3 : Raw) (a4 : Bool) (a5 : Bool) (a6 : (List (List Nat))) (a7 : (List (List Nat))) (a8 : Int) (a9 : (List Nat)) (a10 : Raw) (a11 : Bool) (a12 : Bool) (a13 : (List (List Nat))) (a14 : (List (List Nat))) (a15 : (List Nat)) (a16 : (List S33)) (a17 : Int) (a18 : Int) : Option (Option (S28 × Int)) :=
 bT (i23 k ([45, 62] : List Nat) a15 a16 a17 a18) fun x0_1 => (i28 k a15 a16 x0_1 a18).bind fun x1_2 => bT (F.i6 a15 a16 x0_1 a18) fun x2_3 => some (some ((⟨(22 : Int), a0, ⟨(([(⟨a1, a2, a3, a4, a5, a6, a7⟩ : S28), (⟨a8, a9, a10, a11, a12, a13, a14⟩ : S28), (⟨x2_3.1.f0, x2_3.1.f1, x2_3.1.f2, x2_3.1.f3, x2_3.1.f4, x2_3.1.f5, x2_3.1.f6⟩ : S28)] : List S28)).length, (([(⟨a1, a2, a3, a4, a5, a6, a7⟩ : S28), (⟨a8, a9, a10, a11, a12, a13, a14⟩ : S28), (⟨x2_3.1.f0, x2_3.1.f1, x2_3.1.f2, x2_3.1.f3, x2_3.1.f4, x2_3.1.f5, x2_3.1.f6⟩ : S28)] : List S28)).flatMap e29⟩, x1_2, false, ([] : List (List Nat)), ([] : List (List Nat))⟩ : S28), x2_3.2))
theorem qIw (k : Nat) (F : Fns0) (hF : FnsOk0 F) (a0 : (List Nat)) (a1 : Int) (a2 : (List Nat)) (a3 : Raw) (a4 : Bool) (a5 : Bool) (a6 : (List (List Nat))) (a7 : (List (List Nat))) (a8 : Int) (a9 : (List Nat)) (a10 : Raw) (a11 : Bool) (a12 : Bool) (a13 : (List (List Nat))) (a14 : (List (List Nat))) (a15 : (List Nat)) (a16 : (List S33)) (a17 : Int) (a18 : Int) (r : (Option (S28 × Int))) (h : i47B k F a0 a1 a2 a3 a4 a5 a6 a7 a8 a9 a10 a11 a12 a13 a14 a15 a16 a17 a18 = some r) : CallT Try.prog 108 [.ptr 0 4 0, .str a0, .agg [.i a1, .str a2, q29 a3, .bool a4, .bool a5, w9 a6, w9 a7], .agg [.i a8, .str a9, q29 a10, .bool a11, .bool a12, w9 a13, w9 a14]] (mkH [⟨[.str a15, w34 a16, .i a17, .i a18], 4, false⟩]) ((Xi47 a0 a1 a2 a3 a4 a5 a6 a7 a8 a9 a10 a11 a12 a13 a14 a15 a16 a17 a18).thr r) ((Xi47 a0 a1 a2 a3 a4 a5 a6 a7 a8 a9 a10 a11 a12 a13 a14 a15 a16 a17 a18).enc r) ((Xi47 a0 a1 a2 a3 a4 a5 a6 a7 a8 a9 a10 a11 a12 a13 a14 a15 a16 a17 a18).fin r) := by
 refine qA2 (Xi47 a0 a1 a2 a3 a4 a5 a6 a7 a8 a9 a10 a11 a12 a13 a14 a15 a16 a17 a18) Try.func108 (by kernel_rfl) (by kernel_rfl) rfl (t := i47B k F a0 a1 a2 a3 a4 a5 a6 a7 a8 a9 a10 a11 a12 a13 a14 a15 a16 a17 a18) ?_ h
 unfold i47B
 refine qA0 (eE := [(0, .ptr 0 4 0), (1, .str a0), (2, .agg [.i a1, .str a2, q29 a3, .bool a4, .bool a5, w9 a6, w9 a7]), (3, .agg [.i a8, .str a9, q29 a10, .bool a11, .bool a12, w9 a13, w9 a14])]) (by kernel_rfl) ?_
 let E1 : Env := [(10, .ptr 0 4 0), (8, .ptr 3 7 0), (7, .ptr 2 7 0), (6, .ptr 1 7 0), (0, .ptr 0 4 0), (1, .str a0), (2, .agg [.i a1, .str a2, q29 a3, .bool a4, .bool a5, w9 a6, w9 a7]), (3, .agg [.i a8, .str a9, q29 a10, .bool a11, .bool a12, w9 a13, w9 a14])]
 let Q1 : Blk := ⟨[.str a15, w34 a16, .i a17, .i a18], 4, false⟩
 let Q2 : Blk := ⟨[.i a1, .str a2, q29 a3, .bool a4, .bool a5, w9 a6, w9 a7], 0, false⟩
 let Q3 : Blk := ⟨[.i a8, .str a9, q29 a10, .bool a11, .bool a12, w9 a13, w9 a14], 0, false⟩
 let Q4 : Blk := ⟨[.i 0, .str [], .nils, .bool false, .bool false, .nils, .nils], 0, false⟩
 refine oH 9 (atN 1 (ctl1 i47p1)) E1 (mkH [Q1, Q2, Q3, Q4]) ?_
 refine oX (fun (x0_1 : Int) => .tuple []) (fun x0_1 => [⟨[.str a15, w34 a16, .i x0_1, .i a18], 4, false⟩, Q2, Q3, Q4]) (atN 2 (ctl1 i47p1)) 11 [0] [] [] [0] [] [.ptr 0 4 0, .str [45, 62]] (qAj k ([45, 62] : List Nat) a15 a16 a17 a18) (qAw k ([45, 62] : List Nat) a15 a16 a17 a18) trivial (fun _ => trivial) trivial fun x0_1 hx0_1 => ?_
 refine oR 5 (atN 2 (ctl1 i47p2)) ((13, .ptr 0 4 0) :: (12, .str a0) :: (11, .tuple []) :: E1) ?_
 let Q5 : Blk := ⟨[.str a15, w34 a16, .i x0_1, .i a18], 4, false⟩
 refine oN (fun (x1_2 : Bool) => .bool x1_2) (fun x1_2 => [Q5, Q2, Q3, Q4]) (atN 3 (ctl1 i47p2)) 14 [0] [] [] [.ptr 0 4 0] (qGe k a15 a16 x0_1 a18) trivial (fun _ => trivial) fun x1_2 hx1_2 => ?_
 let Q6 : Blk := ⟨[.i 22, .str a0, .nils, .bool x1_2, .bool false, .nils, .nils], 7, false⟩
 refine oLH 5 i47p3 [(0, .ptr 0 4 0), (6, .ptr 1 7 0), (7, .ptr 2 7 0), (8, .ptr 3 7 0), (9, .ptr 4 7 0)] (mkH [Q5, Q2, Q3, Q4, Q6]) ?_
 refine qC4 (fun h => ?_) (fun x2_3 hx2_3 => ?_)
 ·let E4 : Env := [(18, .ptr 0 4 0), (17, .agg [.i a8, .str a9, q29 a10, .bool a11, .bool a12, w9 a13, w9 a14]), (16, .agg [.i a1, .str a2, q29 a3, .bool a4, .bool a5, w9 a6, w9 a7]), (0, .ptr 0 4 0), (6, .ptr 1 7 0), (7, .ptr 2 7 0), (8, .ptr 3 7 0), (9, .ptr 4 7 0)]
  exact qAn (eE := ((21, .top) :: (20, .top) :: (19, .top) :: E4)) ⟨[20], [(0, 0, 1), (0, 0, 1), (0, 0, 0), (4, 0, 0), (15, 0, 0), (31, 0, 0), (63, 0, 0)], 3, thrown, [0], (mkH [Q5, Q2, Q3, Q4, Q6])⟩ (hs := [(mkH [Q5, Q2, Q3, Q4, Q6]), (mkH [Q5, Q2, Q3, Q4, Q6])]) (LX := [Q1]) (L := [Q5, Q2, Q3, Q4, Q6]) rfl rfl rfl (by kernel_rfl) rfl ⟨.inl rfl, trivial⟩ (by kernel_rfl) (by kernel_rfl) (by kernel_rfl) (by kernel_rfl) (qAa 3 (l' := (opsAt i47p3).toList.drop 3) (eE := E4) (H' := (mkH [Q5, Q2, Q3, Q4, Q6])) (hs := []) (by kernel_rfl) (qAm (l' := (opsAt i47p3).toList.drop 4) (eE := ((19, .top) :: E4)) (hs := [(mkH [Q5, Q2, Q3, Q4, Q6])]) (fi := 35) (args := [.ptr 0 4 0]) (by kernel_rfl) (by kernel_rfl) (frS 0 (M := [Q5, Q2, Q3, Q4, Q6]) (rs := [0]) (ms := []) (mv := []) (mm := []) (D := [0]) (xs' := [.ptr 0 4 0]) (.refl) (hF.i6_thr a15 a16 x0_1 a18 h) trivial trivial (by kernel_rfl)) (by kernel_rfl) (qA1 (l' := (opsAt i47p3).toList.drop 5) (eE := ((20, .top) :: (19, .top) :: E4)) (hs := []) (by kernel_rfl) (by kernel_rfl) (qA1 (l' := (opsAt i47p3).toList.drop 6) (eE := ((21, .top) :: (20, .top) :: (19, .top) :: E4)) (hs := []) (by kernel_rfl) (by kernel_rfl) (qA1 (l' := (opsAt i47p3).toList.drop 7) (eE := ((21, .top) :: (20, .top) :: (19, .top) :: E4)) (hs := [(mkH [Q5, Q2, Q3, Q4, Q6])]) (by kernel_rfl) (by kernel_rfl) (.nil)))))) (by kernel_rfl) (by kernel_rfl)
 ·let E4 : Env := [(18, .ptr 0 4 0), (17, .agg [.i a8, .str a9, q29 a10, .bool a11, .bool a12, w9 a13, w9 a14]), (16, .agg [.i a1, .str a2, q29 a3, .bool a4, .bool a5, w9 a6, w9 a7]), (0, .ptr 0 4 0), (6, .ptr 1 7 0), (7, .ptr 2 7 0), (8, .ptr 3 7 0), (9, .ptr 4 7 0)]
  let Q7 : Blk := ⟨[.str a15, w34 a16, .i x2_3.2, .i a18], 4, false⟩
  let Q8 : Blk := ⟨[.i 22, .str a0, w29 ([(⟨a1, a2, a3, a4, a5, a6, a7⟩ : S28), (⟨a8, a9, a10, a11, a12, a13, a14⟩ : S28), x2_3.1] : List S28), .bool x1_2, .bool false, .nils, .nils], 7, false⟩
  refine oD (H' := (mkH [Q7, Q2, Q3, Q4, Q8])) (nav [0] i47p3) ((21, .ptr 4 7 2) :: (20, w29 ([(⟨a1, a2, a3, a4, a5, a6, a7⟩ : S28), (⟨a8, a9, a10, a11, a12, a13, a14⟩ : S28), x2_3.1] : List S28)) :: (19, n29 x2_3.1) :: E4) [(mkH [Q7, Q2, Q3, Q4, Q6]), (mkH [Q7, Q2, Q3, Q4, Q8])] ⟨[20], [(0, 0, 1), (0, 0, 1), (0, 0, 0), (4, 0, 0), (15, 0, 0), (31, 0, 0), (63, 0, 0)], 7, thrown, [], H0⟩ (oDr 3 3 E4 (qA4 (l' := (opsAt i47p3).toList.drop 4) (eE := ((19, n29 x2_3.1) :: E4)) (hs := [(mkH [Q7, Q2, Q3, Q4, Q6])]) (H' := (mkH [Q7, Q2, Q3, Q4, Q6])) (fi := 35) (args := [.ptr 0 4 0]) (v := n29 x2_3.1) (by kernel_rfl) (frC (rs := [0]) (ms := []) (ms' := []) (hF.i6_ok a15 a16 x0_1 a18 x2_3 hx2_3) trivial trivial (by kernel_rfl)) (by kernel_rfl) (oDh 3 7 ((21, .ptr 4 7 2) :: (20, w29 ([(⟨a1, a2, a3, a4, a5, a6, a7⟩ : S28), (⟨a8, a9, a10, a11, a12, a13, a14⟩ : S28), x2_3.1] : List S28)) :: (19, n29 x2_3.1) :: E4) (mkH [Q7, Q2, Q3, Q4, Q8]) [(mkH [Q7, Q2, Q3, Q4, Q8])] .nil))) ?_
  exact oQF 6 [Q7, Q2, Q3, Q8, Q8] 1 [] [.agg [.i 22, .str a0, w29 ([(⟨a1, a2, a3, a4, a5, a6, a7⟩ : S28), (⟨a8, a9, a10, a11, a12, a13, a14⟩ : S28), x2_3.1] : List S28), .bool x1_2, .bool false, .nils, .nils]] (.agg [.i 22, .str a0, w29 ([(⟨a1, a2, a3, a4, a5, a6, a7⟩ : S28), (⟨a8, a9, a10, a11, a12, a13, a14⟩ : S28), x2_3.1] : List S28), .bool x1_2, .bool false, .vec 0 1 [], .vec 0 1 []]) (.agg (.cs (.cs (.cs (.cs (.cs (.nil (.nil .ps))))))) .ps) trivial
theorem i47B_ok (k : Nat) (F : Fns0) (hF : FnsOk0 F) : Pi47 (i47B k F) := fun a0 a1 a2 a3 a4 a5 a6 a7 a8 a9 a10 a11 a12 a13 a14 a15 a16 a17 a18 x h => qIw k F hF a0 a1 a2 a3 a4 a5 a6 a7 a8 a9 a10 a11 a12 a13 a14 a15 a16 a17 a18 (some x) h
theorem i47B_thr (k : Nat) (F : Fns0) (hF : FnsOk0 F) : Qi47 (i47B k F) := fun a0 a1 a2 a3 a4 a5 a6 a7 a8 a9 a10 a11 a12 a13 a14 a15 a16 a17 a18 h => ⟨_, qIw k F hF a0 a1 a2 a3 a4 a5 a6 a7 a8 a9 a10 a11 a12 a13 a14 a15 a16 a17 a18 none h⟩
def Xi48 (a0 : (List Nat)) (a1 : (List Nat)) (a2 : (List S33)) (a3 : Int) (a4 : Int) : Fx (Option (S28 × Int)) := ⟨Try.prog, cx, Try.f107, fun r => match r with | some r => .agg [.i r.1.f0, .str r.1.f1, q29 r.1.f2, .bool r.1.f3, .bool r.1.f4, w9 r.1.f5, w9 r.1.f6] | none => .top, 1, fun r => match r with | some r => (mkH [⟨[.str a1, w34 a2, .i r.2, .i a4], 4, false⟩]) | none => (mkH [⟨[.str a1, w34 a2, .i a3, .i a4], 4, false⟩]), cxTi, cxOrd, fun r => match r with | some _ => none | none => some (thrown, [0]), false⟩
def i48p0 : Pt := nav [0] (bodyAt Try.f107)
def i48p1 : Pt := nav [0, 0, 0] i48p0
def i48p2 : Pt := nav [0, 0, 0] i48p1
def i48B (k : Nat) (F : Fns0) (a0 : (List Nat)) (a1 : (List Nat)) (a2 : (List S33)) (a3 : Int) (a4 : Int) : Option (Option (S28 × Int)) :=
 bT (F.i51 a1 a2 a3 a4) fun x0_1 => bT (F.i49 a1 a2 x0_1.2 a4) fun x1_4 => bT (F.i47 a0 x0_1.1.f0 x0_1.1.f1 x0_1.1.f2 x0_1.1.f3 x0_1.1.f4 x0_1.1.f5 x0_1.1.f6 x1_4.1.f0 x1_4.1.f1 x1_4.1.f2 x1_4.1.f3 x1_4.1.f4 x1_4.1.f5 x1_4.1.f6 a1 a2 x1_4.2 a4) fun x1_5 => some (some ((⟨x1_5.1.f0, x1_5.1.f1, x1_5.1.f2, x1_5.1.f3, x1_5.1.f4, x1_5.1.f5, x1_5.1.f6⟩ : S28), x1_5.2))
theorem qIv (k : Nat) (F : Fns0) (hF : FnsOk0 F) (a0 : (List Nat)) (a1 : (List Nat)) (a2 : (List S33)) (a3 : Int) (a4 : Int) (r : (Option (S28 × Int))) (h : i48B k F a0 a1 a2 a3 a4 = some r) : CallT Try.prog 107 [.ptr 0 4 0, .str a0] (mkH [⟨[.str a1, w34 a2, .i a3, .i a4], 4, false⟩]) ((Xi48 a0 a1 a2 a3 a4).thr r) ((Xi48 a0 a1 a2 a3 a4).enc r) ((Xi48 a0 a1 a2 a3 a4).fin r) := by
 refine qA2 (Xi48 a0 a1 a2 a3 a4) Try.func107 (by kernel_rfl) (by kernel_rfl) rfl (t := i48B k F a0 a1 a2 a3 a4) ?_ h
 unfold i48B
 refine qA0 (eE := [(0, .ptr 0 4 0), (1, .str a0)]) (by kernel_rfl) ?_
 let Q1 : Blk := ⟨[.str a1, w34 a2, .i a3, .i a4], 4, false⟩
 let Q2 : Blk := ⟨[.i 0, .str [], .nils, .bool false, .bool false, .nils, .nils], 0, false⟩
 refine oH 7 (atN 1 (ctl1 i48p1)) [(6, .ptr 0 4 0), (4, .ptr 1 7 0), (0, .ptr 0 4 0), (1, .str a0)] (mkH [Q1, Q2]) ?_
 refine oX (fun (x0_1 : (S28 × Int)) => n29 x0_1.1) (fun x0_1 => [⟨[.str a1, w34 a2, .i x0_1.2, .i a4], 4, false⟩, Q2]) (atN 2 (ctl1 i48p1)) 7 [0] [] [] [0] [] [.ptr 0 4 0] (hF.i51_thr a1 a2 a3 a4) (hF.i51_ok a1 a2 a3 a4) trivial (fun _ => trivial) trivial fun x0_1 hx0_1 => ?_
 let Q3 : Blk := ⟨[.str a1, w34 a2, .i x0_1.2, .i a4], 4, false⟩
 refine oH 4 i48p2 [(5, .ptr 2 7 0), (7, n29 x0_1.1), (6, .ptr 0 4 0), (4, .ptr 1 7 0), (0, .ptr 0 4 0), (1, .str a0)] (mkH [Q3, Q2, ⟨e29 x0_1.1, 7, false⟩]) ?_
 refine qC4 (fun h => ?_) (fun x1_4 hx1_4 => ?_)
 ·let E2 : Env := [(11, .ptr 0 4 0), (10, n29 x0_1.1), (9, .str a0), (8, .ptr 0 4 0), (5, .ptr 2 7 0), (7, n29 x0_1.1), (6, .ptr 0 4 0), (4, .ptr 1 7 0), (0, .ptr 0 4 0), (1, .str a0)]
  exact qAn (eE := ((13, .top) :: (12, .top) :: E2)) ⟨[], [(0, 0, 0), (0, 0, 0), (0, 0, 1), (0, 0, 0), (8, 0, 0), (31, 0, 0), (63, 0, 0)], 4, thrown, [0], (mkH [Q3, Q2, ⟨e29 x0_1.1, 7, false⟩])⟩ (hs := [(mkH [Q3, Q2, ⟨e29 x0_1.1, 7, false⟩]), (mkH [Q3, Q2, ⟨e29 x0_1.1, 7, false⟩]), (mkH [Q3, Q2, ⟨e29 x0_1.1, 7, false⟩])]) (LX := [Q1]) (L := [Q3, Q2, ⟨e29 x0_1.1, 7, false⟩]) rfl rfl rfl (by kernel_rfl) rfl ⟨.inl rfl, trivial⟩ (by kernel_rfl) (by kernel_rfl) (by kernel_rfl) (by kernel_rfl) (qAa 4 (l' := (opsAt i48p2).toList.drop 4) (eE := E2) (H' := (mkH [Q3, Q2, ⟨e29 x0_1.1, 7, false⟩])) (hs := []) (by kernel_rfl) (qAm (l' := (opsAt i48p2).toList.drop 5) (eE := ((12, .top) :: E2)) (hs := [(mkH [Q3, Q2, ⟨e29 x0_1.1, 7, false⟩])]) (fi := 109) (args := [.ptr 0 4 0]) (by kernel_rfl) (by kernel_rfl) (frS 0 (M := [Q3, Q2, ⟨e29 x0_1.1, 7, false⟩]) (rs := [0]) (ms := []) (mv := []) (mm := []) (D := [0]) (xs' := [.ptr 0 4 0]) (.refl) (hF.i49_thr a1 a2 x0_1.2 a4 h) trivial trivial (by kernel_rfl)) (by kernel_rfl) (qA1 (l' := (opsAt i48p2).toList.drop 6) (eE := ((13, .top) :: (12, .top) :: E2)) (hs := [(mkH [Q3, Q2, ⟨e29 x0_1.1, 7, false⟩])]) (by kernel_rfl) (by kernel_rfl) (qA1 (l' := (opsAt i48p2).toList.drop 7) (eE := ((13, .top) :: (12, .top) :: E2)) (hs := [(mkH [Q3, Q2, ⟨e29 x0_1.1, 7, false⟩])]) (by kernel_rfl) (by kernel_rfl) (.nil))))) (by kernel_rfl) (by kernel_rfl)
 ·refine qC4 (fun h => ?_) (fun x1_5 hx1_5 => ?_)
  ·let E2 : Env := [(11, .ptr 0 4 0), (10, n29 x0_1.1), (9, .str a0), (8, .ptr 0 4 0), (5, .ptr 2 7 0), (7, n29 x0_1.1), (6, .ptr 0 4 0), (4, .ptr 1 7 0), (0, .ptr 0 4 0), (1, .str a0)]
   let Q4 : Blk := ⟨[.str a1, w34 a2, .i x1_4.2, .i a4], 4, false⟩
   exact qAn (eE := ((13, .top) :: (12, n29 x1_4.1) :: E2)) ⟨[], [(0, 0, 0), (0, 0, 0), (0, 0, 1), (0, 0, 0), (8, 0, 0), (31, 0, 0), (63, 0, 0)], 5, thrown, [0], (mkH [Q4, Q2, ⟨e29 x0_1.1, 7, false⟩])⟩ (hs := [(mkH [Q4, Q2, ⟨e29 x0_1.1, 7, false⟩]), (mkH [Q4, Q2, ⟨e29 x0_1.1, 7, false⟩]), (mkH [Q4, Q2, ⟨e29 x0_1.1, 7, false⟩])]) (LX := [Q1]) (L := [Q4, Q2, ⟨e29 x0_1.1, 7, false⟩]) rfl rfl rfl (by kernel_rfl) rfl ⟨.inl rfl, trivial⟩ (by kernel_rfl) (by kernel_rfl) (by kernel_rfl) (by kernel_rfl) (qAa 4 (l' := (opsAt i48p2).toList.drop 4) (eE := E2) (H' := (mkH [Q3, Q2, ⟨e29 x0_1.1, 7, false⟩])) (hs := []) (by kernel_rfl) (qA4 (l' := (opsAt i48p2).toList.drop 5) (eE := ((12, n29 x1_4.1) :: E2)) (hs := [(mkH [Q4, Q2, ⟨e29 x0_1.1, 7, false⟩])]) (H' := (mkH [Q4, Q2, ⟨e29 x0_1.1, 7, false⟩])) (fi := 109) (args := [.ptr 0 4 0]) (v := n29 x1_4.1) (by kernel_rfl) (frC (rs := [0]) (ms := []) (ms' := []) (hF.i49_ok a1 a2 x0_1.2 a4 x1_4 hx1_4) trivial trivial (by kernel_rfl)) (by kernel_rfl) (qAm (l' := (opsAt i48p2).toList.drop 6) (eE := ((13, .top) :: (12, n29 x1_4.1) :: E2)) (hs := [(mkH [Q4, Q2, ⟨e29 x0_1.1, 7, false⟩])]) (fi := 108) (args := [.ptr 0 4 0, .str a0, n29 x0_1.1, n29 x1_4.1]) (by kernel_rfl) (by kernel_rfl) (frS 0 (M := [Q4, Q2, ⟨e29 x0_1.1, 7, false⟩]) (rs := [0]) (ms := []) (mv := []) (mm := []) (D := [0]) (xs' := [.ptr 0 4 0, .str a0, n29 x0_1.1, n29 x1_4.1]) (.refl) (hF.i47_thr a0 x0_1.1.f0 x0_1.1.f1 x0_1.1.f2 x0_1.1.f3 x0_1.1.f4 x0_1.1.f5 x0_1.1.f6 x1_4.1.f0 x1_4.1.f1 x1_4.1.f2 x1_4.1.f3 x1_4.1.f4 x1_4.1.f5 x1_4.1.f6 a1 a2 x1_4.2 a4 h) trivial trivial (by kernel_rfl)) (by kernel_rfl) (qA1 (l' := (opsAt i48p2).toList.drop 7) (eE := ((13, .top) :: (12, n29 x1_4.1) :: E2)) (hs := [(mkH [Q4, Q2, ⟨e29 x0_1.1, 7, false⟩])]) (by kernel_rfl) (by kernel_rfl) (.nil))))) (by kernel_rfl) (by kernel_rfl)
  ·let E2 : Env := [(11, .ptr 0 4 0), (10, n29 x0_1.1), (9, .str a0), (8, .ptr 0 4 0), (5, .ptr 2 7 0), (7, n29 x0_1.1), (6, .ptr 0 4 0), (4, .ptr 1 7 0), (0, .ptr 0 4 0), (1, .str a0)]
   let Q5 : Blk := ⟨[.str a1, w34 a2, .i x1_5.2, .i a4], 4, false⟩
   let Q6 : Blk := ⟨[.str a1, w34 a2, .i x1_4.2, .i a4], 4, false⟩
   let K1 : List Blk := [Q5, ⟨e29 x1_5.1, 7, false⟩, ⟨e29 x0_1.1, 7, false⟩]
   refine oD (H' := (mkH K1)) (nav [0] i48p2) ((13, n29 x1_5.1) :: (12, n29 x1_4.1) :: E2) [(mkH [Q6, Q2, ⟨e29 x0_1.1, 7, false⟩]), (mkH [Q5, Q2, ⟨e29 x0_1.1, 7, false⟩]), (mkH K1)] ⟨[], [(0, 0, 0), (0, 0, 0), (0, 0, 1), (0, 0, 0), (8, 0, 0), (31, 0, 0), (63, 0, 0)], 7, thrown, [], H0⟩ (oDr 4 4 E2 (qA4 (l' := (opsAt i48p2).toList.drop 5) (eE := ((12, n29 x1_4.1) :: E2)) (hs := [(mkH [Q6, Q2, ⟨e29 x0_1.1, 7, false⟩])]) (H' := (mkH [Q6, Q2, ⟨e29 x0_1.1, 7, false⟩])) (fi := 109) (args := [.ptr 0 4 0]) (v := n29 x1_4.1) (by kernel_rfl) (frC (rs := [0]) (ms := []) (ms' := []) (hF.i49_ok a1 a2 x0_1.2 a4 x1_4 hx1_4) trivial trivial (by kernel_rfl)) (by kernel_rfl) (qA4 (l' := (opsAt i48p2).toList.drop 6) (eE := ((13, n29 x1_5.1) :: (12, n29 x1_4.1) :: E2)) (hs := [(mkH [Q5, Q2, ⟨e29 x0_1.1, 7, false⟩])]) (H' := (mkH [Q5, Q2, ⟨e29 x0_1.1, 7, false⟩])) (fi := 108) (args := [.ptr 0 4 0, .str a0, n29 x0_1.1, n29 x1_4.1]) (v := n29 x1_5.1) (by kernel_rfl) (frC (rs := [0]) (ms := []) (ms' := []) (hF.i47_ok a0 x0_1.1.f0 x0_1.1.f1 x0_1.1.f2 x0_1.1.f3 x0_1.1.f4 x0_1.1.f5 x0_1.1.f6 x1_4.1.f0 x1_4.1.f1 x1_4.1.f2 x1_4.1.f3 x1_4.1.f4 x1_4.1.f5 x1_4.1.f6 a1 a2 x1_4.2 a4 x1_5 hx1_5) trivial trivial (by kernel_rfl)) (by kernel_rfl) (oDh 1 7 ((13, n29 x1_5.1) :: (12, n29 x1_4.1) :: E2) (mkH K1) [(mkH K1)] .nil)))) ?_
   exact oQF 1 K1 1 [] [n29 x1_5.1] (n29 x1_5.1) .ps trivial
theorem i48B_ok (k : Nat) (F : Fns0) (hF : FnsOk0 F) : Pi48 (i48B k F) := fun a0 a1 a2 a3 a4 x h => qIv k F hF a0 a1 a2 a3 a4 (some x) h
theorem i48B_thr (k : Nat) (F : Fns0) (hF : FnsOk0 F) : Qi48 (i48B k F) := fun a0 a1 a2 a3 a4 h => ⟨_, qIv k F hF a0 a1 a2 a3 a4 none h⟩
def Xi49 (a0 : (List Nat)) (a1 : (List S33)) (a2 : Int) (a3 : Int) : Fx (Option (S28 × Int)) := ⟨Try.prog, cx, Try.f109, fun r => match r with | some r => .agg [.i r.1.f0, .str r.1.f1, q29 r.1.f2, .bool r.1.f3, .bool r.1.f4, w9 r.1.f5, w9 r.1.f6] | none => .top, 1, fun r => match r with | some r => (mkH [⟨[.str a0, w34 a1, .i r.2, .i a3], 4, false⟩]) | none => (mkH [⟨[.str a0, w34 a1, .i a2, .i a3], 4, false⟩]), cxTi, cxOrd, fun r => match r with | some _ => none | none => some (thrown, [0]), false⟩
def i49p0 : Pt := nav [0] (bodyAt Try.f109)
def i49p1 : Pt := nav [0, 0, 0, 0] i49p0
def i49p2 : Pt := nav [0, 0] i49p1
def i49p3 : Pt := nav [1, 0] i49p2
def i49B (k : Nat) (F : Fns0) (a0 : (List Nat)) (a1 : (List S33)) (a2 : Int) (a3 : Int) : Option (Option (S28 × Int)) :=
 bT (i7 k ([119, 104, 101, 110] : List Nat) a0 a1 a2 a3) fun x0_1 => if x0_1.1 then (bT (F.i50 a0 a1 x0_1.2 a3) fun x1_1 => some (some ((⟨x1_1.1.f0, x1_1.1.f1, x1_1.1.f2, x1_1.1.f3, x1_1.1.f4, x1_1.1.f5, x1_1.1.f6⟩ : S28), x1_1.2))) else (some (some ((⟨(24 : Int), ([] : List Nat), ⟨0, []⟩, false, false, ([] : List (List Nat)), ([] : List (List Nat))⟩ : S28), x0_1.2)))
theorem qIu (k : Nat) (F : Fns0) (hF : FnsOk0 F) (a0 : (List Nat)) (a1 : (List S33)) (a2 : Int) (a3 : Int) (r : (Option (S28 × Int))) (h : i49B k F a0 a1 a2 a3 = some r) : CallT Try.prog 109 [.ptr 0 4 0] (mkH [⟨[.str a0, w34 a1, .i a2, .i a3], 4, false⟩]) ((Xi49 a0 a1 a2 a3).thr r) ((Xi49 a0 a1 a2 a3).enc r) ((Xi49 a0 a1 a2 a3).fin r) := by
 refine qA2 (Xi49 a0 a1 a2 a3) Try.func109 (by kernel_rfl) (by kernel_rfl) rfl (t := i49B k F a0 a1 a2 a3) ?_ h
 unfold i49B
 refine qA0 (eE := [(0, .ptr 0 4 0)]) (by kernel_rfl) ?_
 let Q1 : Blk := ⟨[.i 0, .str [], .nils, .bool false, .bool false, .nils, .nils], 0, false⟩
 refine oH 8 (atN 1 (ctl1 i49p1)) [(3, .ptr 0 4 0), (2, .ptr 1 7 0), (0, .ptr 0 4 0)] (mkH [⟨[.str a0, w34 a1, .i a2, .i a3], 4, false⟩, Q1]) ?_
 refine oX (fun (x0_1 : (Bool × Int)) => .bool x0_1.1) (fun x0_1 => [⟨[.str a0, w34 a1, .i x0_1.2, .i a3], 4, false⟩, Q1]) (atN 2 (ctl1 i49p1)) 4 [0] [] [] [] [] [.ptr 0 4 0, .str [119, 104, 101, 110]] (qAb k ([119, 104, 101, 110] : List Nat) a0 a1 a2 a3) (qAi k ([119, 104, 101, 110] : List Nat) a0 a1 a2 a3) trivial (fun _ => trivial) trivial fun x0_1 hx0_1 => ?_
 refine oR 1 i49p2 [(4, .bool x0_1.1), (3, .ptr 0 4 0), (2, .ptr 1 7 0), (0, .ptr 0 4 0)] ?_
 refine oS 4 (fun hb => ?_) (fun hb => ?_)
 ·refine oR 4 (atN 1 (ctl1 i49p3)) [(5, .ptr 0 4 0), (4, .bool true), (4, .bool x0_1.1), (3, .ptr 0 4 0), (2, .ptr 1 7 0), (0, .ptr 0 4 0)] ?_
  refine oX (fun (x1_1 : (S28 × Int)) => n29 x1_1.1) (fun x1_1 => [⟨[.str a0, w34 a1, .i x1_1.2, .i a3], 4, false⟩, Q1]) (atN 2 (ctl1 i49p3)) 6 [0] [] [] [0] [] [.ptr 0 4 0] (hF.i50_thr a0 a1 x0_1.2 a3) (hF.i50_ok a0 a1 x0_1.2 a3) trivial (fun _ => trivial) trivial fun x1_1 hx1_1 => ?_
  exact oQF 3 [⟨[.str a0, w34 a1, .i x1_1.2, .i a3], 4, false⟩, ⟨e29 x1_1.1, 7, false⟩] 1 [] [n29 x1_1.1] (n29 x1_1.1) .ps trivial
 ·exact oQF 8 [⟨[.str a0, w34 a1, .i x0_1.2, .i a3], 4, false⟩, ⟨[.i 24, .str [], .nils, .bool false, .bool false, .nils, .nils], 7, false⟩] 1 [] [.agg [.i 24, .str [], .nils, .bool false, .bool false, .nils, .nils]] (.agg [.i 24, .str [], .vec 0 7 [], .bool false, .bool false, .vec 0 1 [], .vec 0 1 []]) (.agg (.cs (.cs (.nil (.cs (.cs (.nil (.nil .ps))))))) .ps) trivial
theorem i49B_ok (k : Nat) (F : Fns0) (hF : FnsOk0 F) : Pi49 (i49B k F) := fun a0 a1 a2 a3 x h => qIu k F hF a0 a1 a2 a3 (some x) h
theorem i49B_thr (k : Nat) (F : Fns0) (hF : FnsOk0 F) : Qi49 (i49B k F) := fun a0 a1 a2 a3 h => ⟨_, qIu k F hF a0 a1 a2 a3 none h⟩
def Xi5 (a0 : Int) (a1 : (List Nat)) (a2 : (List S33)) (a3 : Int) (a4 : Int) : Fx (Option (S28 × Int)) := ⟨Try.prog, cx, Try.f29, fun r => match r with | some r => .agg [.i r.1.f0, .str r.1.f1, q29 r.1.f2, .bool r.1.f3, .bool r.1.f4, w9 r.1.f5, w9 r.1.f6] | none => .top, 1, fun r => match r with | some r => (mkH [⟨[.str a1, w34 a2, .i r.2, .i a4], 4, false⟩]) | none => (mkH [⟨[.str a1, w34 a2, .i a3, .i a4], 4, false⟩]), cxTi, cxOrd, fun r => match r with | some _ => none | none => some (thrown, [0]), false⟩
def i5p0 : Pt := nav [0] (bodyAt Try.f29)
def i5p1 : Pt := nav [0, 0, 0, 0] i5p0
def i5p2 : Pt := nav [0, 0] i5p1
def i5p3 : Pt := nav [1, 0] i5p2
def i5p4 : Pt := nav [2, 0, 0] i5p2
def i5p6 : Pt := nav [0, 0, 0, 0, 0] i5p4
def i5p7 : Pt := nav [0, 0, 0] i5p6
def i5p8 : Pt := nav [0, 0] i5p7
def i5p9 : Pt := nav [1, 0, 0, 0] i5p8
def i5p10 : Pt := nav [2, 0, 0] i5p8
def i5p11 : Pt := nav [0, 0, 0] i5p9
def i5p12 : Pt := nav [0, 0, 0, 0] i5p11
def i5p13 : Pt := nav [0, 0] i5p12
def i5p14 : Pt := nav [2, 0, 0] i5p13
def i5p15 : Pt := nav [0, 0] i5p14
def qM7 (k : Nat) (F : Fns0)  (a0 : Int) (a1 : (List Nat)) (a2 : (List S33)) (a3 : Int) (a4 : Int) (ih : Int → Int → Int → (List Nat) → Raw → Bool → Bool → (List (List Nat)) → (List (List Nat)) → Option (Option (S28 × Int))) : Int → Int → Int → (List Nat) → Raw → Bool → Bool → (List (List Nat)) → (List (List Nat)) → Option (Option (S28 × Int)) :=
 fun (y9_0 : Int) (y9_1 : Int) (y9_2 : Int) (y9_3 : (List Nat)) (y9_4 : Raw) (y9_5 : Bool) (y9_6 : Bool) (y9_7 : (List (List Nat))) (y9_8 : (List (List Nat))) => jn (fun (z11 : Int × Int × (List Nat) × Raw × Bool × Bool × (List (List Nat)) × (List (List Nat))) => some (some ((⟨z11.2.1, z11.2.2.1, z11.2.2.2.1, z11.2.2.2.2.1, z11.2.2.2.2.2.1, z11.2.2.2.2.2.2.1, z11.2.2.2.2.2.2.2⟩ : S28), z11.1))) (fun j11 => if (decide (a0 ≤ 9)) then ((i9 k a1 a2 y9_1 a4).bind fun x3_1 => (g50 k x3_1.f1).bind fun x4_2 => (i10 k x3_1.f1 a1 a2 y9_1 a4).bind fun x5_3 => jn (fun (z10 : Bool × Int × Int × (List Nat) × Raw × Bool × Bool × (List (List Nat)) × (List (List Nat))) => if z10.1 then (j11 (z10.2.1, z10.2.2.1, z10.2.2.2.1, z10.2.2.2.2.1, z10.2.2.2.2.2.1, z10.2.2.2.2.2.2.1, z10.2.2.2.2.2.2.2.1, z10.2.2.2.2.2.2.2.2)) else (bT (i11 k a1 a2 z10.2.1 a4) fun x6_1 => (g54 k x3_1.f1).bind fun x7_6 => bT (F.i5 x7_6 a1 a2 x6_1 a4) fun x7_7 => ih x4_2 x7_7.2 14 x3_1.f1 (⟨(([(⟨z10.2.2.1, z10.2.2.2.1, z10.2.2.2.2.1, z10.2.2.2.2.2.1, z10.2.2.2.2.2.2.1, z10.2.2.2.2.2.2.2.1, z10.2.2.2.2.2.2.2.2⟩ : S28), x7_7.1] : List S28)).length, (([(⟨z10.2.2.1, z10.2.2.2.1, z10.2.2.2.2.1, z10.2.2.2.2.2.1, z10.2.2.2.2.2.2.1, z10.2.2.2.2.2.2.2.1, z10.2.2.2.2.2.2.2.2⟩ : S28), x7_7.1] : List S28)).flatMap e29⟩ : Raw) false false ([] : List (List Nat)) ([] : List (List Nat)))) (fun j10 => if (!x5_3) then (j10 (true, y9_1, y9_2, y9_3, y9_4, y9_5, y9_6, y9_7, y9_8)) else (if (decide (x4_2 < maxI a0 1)) then (j10 (true, y9_1, y9_2, y9_3, y9_4, y9_5, y9_6, y9_7, y9_8)) else ((g52 k x3_1.f1).bind fun x5_15 => j10 (decide (y9_0 < x5_15), y9_1, y9_2, y9_3, y9_4, y9_5, y9_6, y9_7, y9_8))))) else (j11 (y9_1, y9_2, y9_3, y9_4, y9_5, y9_6, y9_7, y9_8)))
def i5_l9 (k : Nat) (F : Fns0)  (a0 : Int) (a1 : (List Nat)) (a2 : (List S33)) (a3 : Int) (a4 : Int) (n : Nat) : Int → Int → Int → (List Nat) → Raw → Bool → Bool → (List (List Nat)) → (List (List Nat)) → Option (Option (S28 × Int)) := lp (fun _ _ _ _ _ _ _ _ _ => none) (qM7 k F a0 a1 a2 a3 a4) n
theorem i5_l9_ok (k : Nat) (F : Fns0) (hF : FnsOk0 F) (a0 : Int) (a1 : (List Nat)) (a2 : (List S33)) (a3 : Int) (a4 : Int)    : ∀ (n : Nat) (y9_0 : Int) (y9_1 : Int) (y9_2 : Int) (y9_3 : (List Nat)) (y9_4 : Raw) (y9_5 : Bool) (y9_6 : Bool) (y9_7 : (List (List Nat))) (y9_8 : (List (List Nat))), Ok (Xi5 a0 a1 a2 a3 a4) i5p6 [(0, .ptr 0 4 0), (1, .i a0), (4, .ptr 1 7 0), (5, .ptr 2 7 0), (6, .i y9_0)] (mkH [⟨[.str a1, w34 a2, .i y9_1, .i a4], 4, false⟩, ⟨[.i 0, .str [], .nils, .bool false, .bool false, .nils, .nils], 0, false⟩, ⟨[.i y9_2, .str y9_3, q29 y9_4, .bool y9_5, .bool y9_6, w9 y9_7, w9 y9_8], 7, false⟩]) (i5_l9 k F a0 a1 a2 a3 a4 n y9_0 y9_1 y9_2 y9_3 y9_4 y9_5 y9_6 y9_7 y9_8) := by
 intro n
 induction n with
 | zero => intro y9_0 y9_1 y9_2 y9_3 y9_4 y9_5 y9_6 y9_7 y9_8; exact ok_none
 | succ n ih =>
  intro y9_0 y9_1 y9_2 y9_3 y9_4 y9_5 y9_6 y9_7 y9_8
  show Ok _ _ _ _ (qM7 k F a0 a1 a2 a3 a4 (i5_l9 k F a0 a1 a2 a3 a4 n) y9_0 y9_1 y9_2 y9_3 y9_4 y9_5 y9_6 y9_7 y9_8)
  unfold qM7
  refine qAk (p' := nav [0] i5p6) (by kernel_rfl) ?_
  let E6 : Env := [(25, .bool (decide (a0 ≤ 9))), (24, .i a0), (0, .ptr 0 4 0), (1, .i a0), (4, .ptr 1 7 0), (5, .ptr 2 7 0), (6, .i y9_0)]
  let Q1 : Blk := ⟨[.str a1, w34 a2, .i y9_1, .i a4], 4, false⟩
  let Q2 : Blk := ⟨[.i 0, .str [], .nils, .bool false, .bool false, .nils, .nils], 0, false⟩
  let Q3 : Blk := ⟨[.i y9_2, .str y9_3, q29 y9_4, .bool y9_5, .bool y9_6, w9 y9_7, w9 y9_8], 7, false⟩
  refine oH 6 i5p8 E6 (mkH [Q1, Q2, Q3]) ?_
  refine oJ i5p10 (fun (z11 : Int × Int × (List Nat) × Raw × Bool × Bool × (List (List Nat)) × (List (List Nat))) => [(4, .ptr 1 7 0), (5, .ptr 2 7 0)]) (fun (z11 : Int × Int × (List Nat) × Raw × Bool × Bool × (List (List Nat)) × (List (List Nat))) => (mkH [⟨[.str a1, w34 a2, .i z11.1, .i a4], 4, false⟩, Q2, ⟨[.i z11.2.1, .str z11.2.2.1, q29 z11.2.2.2.1, .bool z11.2.2.2.2.1, .bool z11.2.2.2.2.2.1, w9 z11.2.2.2.2.2.2.1, w9 z11.2.2.2.2.2.2.2], 7, false⟩])) (fun z11 => ?_) (fun j11 hj11 => ?_)
  ·let Q4 : Blk := ⟨[.i z11.2.1, .str z11.2.2.1, q29 z11.2.2.2.1, .bool z11.2.2.2.2.1, .bool z11.2.2.2.2.2.1, w9 z11.2.2.2.2.2.2.1, w9 z11.2.2.2.2.2.2.2], 7, false⟩
   exact oQF 5 [⟨[.str a1, w34 a2, .i z11.1, .i a4], 4, false⟩, Q4, Q4] 1 [] [.agg [.i z11.2.1, .str z11.2.2.1, q29 z11.2.2.2.1, .bool z11.2.2.2.2.1, .bool z11.2.2.2.2.2.1, w9 z11.2.2.2.2.2.2.1, w9 z11.2.2.2.2.2.2.2]] (.agg [.i z11.2.1, .str z11.2.2.1, q29 z11.2.2.2.1, .bool z11.2.2.2.2.1, .bool z11.2.2.2.2.2.1, w9 z11.2.2.2.2.2.2.1, w9 z11.2.2.2.2.2.2.2]) .ps trivial
  ·refine oS 25 (fun hb => ?_) (fun hb => ?_)
   ·refine oH 6 (atN 1 (ctl1 i5p9)) ((26, .ptr 0 4 0) :: (25, .bool true) :: E6) (mkH [Q1, Q2, Q3]) ?_
    refine oN (fun (x3_1 : S33) => n34 x3_1) (fun x3_1 => [Q1, Q2, Q3]) (atN 2 (ctl1 i5p9)) 27 [0] [] [] [.ptr 0 4 0] (qKh k a1 a2 y9_1 a4) trivial (fun _ => trivial) fun x3_1 hx3_1 => ?_
    let E7 : Env := ((29, .str x3_1.f1) :: (28, .ptr 3 3 1) :: (7, .ptr 3 3 0) :: (27, n34 x3_1) :: (26, .ptr 0 4 0) :: (25, .bool true) :: E6)
    refine oH 7 (atN 2 (ctl1 i5p11)) E7 (mkH [Q1, Q2, Q3, ⟨e34 x3_1, 3, false⟩]) ?_
    refine oA (fun (x4_2 : Int) => .i x4_2) (atN 3 (ctl1 i5p11)) 30 [.str x3_1.f1] (qEr k x3_1.f1) fun x4_2 hx4_2 => ?_
    refine oR 4 i5p12 ((8, .i x4_2) :: (30, .i x4_2) :: E7) ?_
    refine oK0 [0, 1, 4, 5, 6, 7, 8] ?_
    let E8 : Env := keepOnly ((8, .i x4_2) :: (30, .i x4_2) :: E7) [0, 1, 4, 5, 6, 7, 8]
    refine oR 4 (atN 3 (ctl1 i5p12)) ((33, .str x3_1.f1) :: (32, .ptr 3 3 1) :: (31, .ptr 0 4 0) :: E8) ?_
    refine oN (fun (x5_3 : Bool) => .bool x5_3) (fun x5_3 => [Q1, Q2, Q3, ⟨e34 x3_1, 3, false⟩]) (atN 4 (ctl1 i5p12)) 34 [0] [] [] [.ptr 0 4 0, .str x3_1.f1] (qGg k x3_1.f1 a1 a2 y9_1 a4) trivial (fun _ => trivial) fun x5_3 hx5_3 => ?_
    let E9 : Env := ((36, .bool (!x5_3)) :: (35, .bool (!x5_3)) :: (34, .bool x5_3) :: (33, .str x3_1.f1) :: (32, .ptr 3 3 1) :: (31, .ptr 0 4 0) :: E8)
    refine oR 2 (atN 6 (ctl1 i5p12)) E9 ?_
    refine oJ i5p13 (fun (z10 : Bool × Int × Int × (List Nat) × Raw × Bool × Bool × (List (List Nat)) × (List (List Nat))) => [(0, .ptr 0 4 0), (1, .i a0), (4, .ptr 1 7 0), (5, .ptr 2 7 0), (7, .ptr 3 3 0), (8, .i x4_2), (48, .bool z10.1)]) (fun (z10 : Bool × Int × Int × (List Nat) × Raw × Bool × Bool × (List (List Nat)) × (List (List Nat))) => (mkH [⟨[.str a1, w34 a2, .i z10.2.1, .i a4], 4, false⟩, Q2, ⟨[.i z10.2.2.1, .str z10.2.2.2.1, q29 z10.2.2.2.2.1, .bool z10.2.2.2.2.2.1, .bool z10.2.2.2.2.2.2.1, w9 z10.2.2.2.2.2.2.2.1, w9 z10.2.2.2.2.2.2.2.2], 7, false⟩, ⟨e34 x3_1, 3, false⟩])) (fun z10 => ?_) (fun j10 hj10 => ?_)
    ·refine oS 48 (fun hb => ?_) (fun hb => ?_)
     ·let Q5 : Blk := ⟨[.str a1, w34 a2, .i z10.2.1, .i a4], 4, false⟩
      let Q6 : Blk := ⟨[.i z10.2.2.1, .str z10.2.2.2.1, q29 z10.2.2.2.2.1, .bool z10.2.2.2.2.2.1, .bool z10.2.2.2.2.2.2.1, w9 z10.2.2.2.2.2.2.2.1, w9 z10.2.2.2.2.2.2.2.2], 7, false⟩
      refine oLH 3 i5p10 [(4, .ptr 1 7 0), (5, .ptr 2 7 0)] (mkH [Q5, Q2, Q6, ⟨e34 x3_1, 3, false⟩]) ?_
      refine qAc [Q5, Q2, Q6] [⟨e34 x3_1, 3, false⟩] (by kernel_rfl) rfl (by kernel_rfl) ⟨(by kernel_rfl), ⟨(by kernel_rfl), ⟨(by kernel_rfl), trivial⟩⟩⟩ ?_
      exact hj11 (z10.2.1, z10.2.2.1, z10.2.2.2.1, z10.2.2.2.2.1, z10.2.2.2.2.2.1, z10.2.2.2.2.2.2.1, z10.2.2.2.2.2.2.2.1, z10.2.2.2.2.2.2.2.2)
     ·let E12 : Env := [(49, .ptr 0 4 0), (48, .bool false), (0, .ptr 0 4 0), (1, .i a0), (4, .ptr 1 7 0), (5, .ptr 2 7 0), (7, .ptr 3 3 0), (8, .i x4_2), (48, .bool z10.1)]
      let Q7 : Blk := ⟨[.i z10.2.2.1, .str z10.2.2.2.1, q29 z10.2.2.2.2.1, .bool z10.2.2.2.2.2.1, .bool z10.2.2.2.2.2.2.1, w9 z10.2.2.2.2.2.2.2.1, w9 z10.2.2.2.2.2.2.2.2], 7, false⟩
      refine oH 5 (atN 1 (ctl1 i5p14)) E12 (mkH [⟨[.str a1, w34 a2, .i z10.2.1, .i a4], 4, false⟩, Q2, Q7, ⟨e34 x3_1, 3, false⟩]) ?_
      refine oX (fun (x6_1 : Int) => .tuple []) (fun x6_1 => [⟨[.str a1, w34 a2, .i x6_1, .i a4], 4, false⟩, Q2, Q7, ⟨e34 x3_1, 3, false⟩]) (atN 2 (ctl1 i5p14)) 50 [0] [] [] [] [] [.ptr 0 4 0] (qD6 k a1 a2 z10.2.1 a4) (qEo k a1 a2 z10.2.1 a4) trivial (fun _ => trivial) trivial fun x6_1 hx6_1 => ?_
      refine oR 1 i5p15 ((50, .tuple []) :: E12) ?_
      refine qA9 (fun x7_6 hx7_6 => ?_)
      refine qC4 (fun h => ?_) (fun x7_7 hx7_7 => ?_)
      ·let E13 : Env := [(56, .str x3_1.f1), (55, .ptr 3 3 1), (54, .ptr 0 4 0), (53, .agg [.i z10.2.2.1, .str z10.2.2.2.1, q29 z10.2.2.2.2.1, .bool z10.2.2.2.2.2.1, .bool z10.2.2.2.2.2.2.1, w9 z10.2.2.2.2.2.2.2.1, w9 z10.2.2.2.2.2.2.2.2]), (52, .str x3_1.f1), (51, .ptr 3 3 1), (50, .tuple []), (49, .ptr 0 4 0), (48, .bool false), (0, .ptr 0 4 0), (1, .i a0), (4, .ptr 1 7 0), (5, .ptr 2 7 0), (7, .ptr 3 3 0), (8, .i x4_2), (48, .bool z10.1)]
       let E14 : Env := ((61, .i x4_2) :: (60, .top) :: (59, .top) :: (58, .top) :: (57, .i x7_6) :: E13)
       let Q8 : Blk := ⟨[.str a1, w34 a2, .i x6_1, .i a4], 4, false⟩
       exact qAn (eE := ((6, .top) :: E14)) ⟨[59], [(0, 0, 0), (1, 0, 2), (0, 0, 2), (0, 0, 0), (0, 0, 0), (16, 0, 0), (48, 0, 0), (120, 0, 0), (252, 0, 0), (511, 0, 0), (0, 0, 0), (1023, 0, 0), (4095, 0, 0)], 7, thrown, [0], (mkH [Q8, Q2, Q7, ⟨e34 x3_1, 3, false⟩])⟩ (hs := [(mkH [Q8, Q2, Q7, ⟨e34 x3_1, 3, false⟩]), (mkH [Q8, Q2, Q7, ⟨e34 x3_1, 3, false⟩]), (mkH [Q8, Q2, Q7, ⟨e34 x3_1, 3, false⟩])]) (LX := [⟨[.str a1, w34 a2, .i a3, .i a4], 4, false⟩]) (L := [Q8, Q2, Q7, ⟨e34 x3_1, 3, false⟩]) rfl rfl rfl (by kernel_rfl) rfl ⟨.inl rfl, trivial⟩ (by kernel_rfl) (by kernel_rfl) (by kernel_rfl) (by kernel_rfl) (qAa 6 (l' := (opsAt i5p15).toList.drop 6) (eE := E13) (H' := (mkH [Q8, Q2, Q7, ⟨e34 x3_1, 3, false⟩])) (hs := []) (by kernel_rfl) (qAu (l' := (opsAt i5p15).toList.drop 7) (eE := ((57, .i x7_6) :: E13)) (hs := [(mkH [Q8, Q2, Q7, ⟨e34 x3_1, 3, false⟩])]) (fi := 54) (args := [.str x3_1.f1]) (v := .i x7_6) (by kernel_rfl) (by kernel_rfl) (by kernel_rfl) (g54_ok k x3_1.f1 x7_6 hx7_6) (by kernel_rfl) (qAm (l' := (opsAt i5p15).toList.drop 8) (eE := ((58, .top) :: (57, .i x7_6) :: E13)) (hs := [(mkH [Q8, Q2, Q7, ⟨e34 x3_1, 3, false⟩])]) (fi := 29) (args := [.ptr 0 4 0, .i x7_6]) (by kernel_rfl) (by kernel_rfl) (frS 0 (M := [Q8, Q2, Q7, ⟨e34 x3_1, 3, false⟩]) (rs := [0]) (ms := []) (mv := []) (mm := []) (D := [0]) (xs' := [.ptr 0 4 0, .i x7_6]) (.refl) (hF.i5_thr x7_6 a1 a2 x6_1 a4 h) trivial trivial (by kernel_rfl)) (by kernel_rfl) (qA1 (l' := (opsAt i5p15).toList.drop 9) (eE := ((59, .top) :: (58, .top) :: (57, .i x7_6) :: E13)) (hs := []) (by kernel_rfl) (by kernel_rfl) (qA1 (l' := (opsAt i5p15).toList.drop 10) (eE := ((60, .top) :: (59, .top) :: (58, .top) :: (57, .i x7_6) :: E13)) (hs := []) (by kernel_rfl) (by kernel_rfl) (qAa 1 (l' := (opsAt i5p15).toList.drop 11) (eE := E14) (H' := (mkH [Q8, Q2, Q7, ⟨e34 x3_1, 3, false⟩])) (hs := []) (by kernel_rfl) (qA1 (l' := (opsAt i5p15).toList.drop 12) (eE := E14) (hs := [(mkH [Q8, Q2, Q7, ⟨e34 x3_1, 3, false⟩])]) (by kernel_rfl) (by kernel_rfl) (qA1 (l' := (opsAt i5p15).toList.drop 13) (eE := ((6, .top) :: E14)) (hs := []) (by kernel_rfl) (by kernel_rfl) (.nil))))))))) (by kernel_rfl) (by kernel_rfl)
      ·let E13 : Env := [(56, .str x3_1.f1), (55, .ptr 3 3 1), (54, .ptr 0 4 0), (53, .agg [.i z10.2.2.1, .str z10.2.2.2.1, q29 z10.2.2.2.2.1, .bool z10.2.2.2.2.2.1, .bool z10.2.2.2.2.2.2.1, w9 z10.2.2.2.2.2.2.2.1, w9 z10.2.2.2.2.2.2.2.2]), (52, .str x3_1.f1), (51, .ptr 3 3 1), (50, .tuple []), (49, .ptr 0 4 0), (48, .bool false), (0, .ptr 0 4 0), (1, .i a0), (4, .ptr 1 7 0), (5, .ptr 2 7 0), (7, .ptr 3 3 0), (8, .i x4_2), (48, .bool z10.1)]
       let E15 : Env := ((6, .i x4_2) :: (61, .i x4_2) :: (60, .agg [.i 14, .str x3_1.f1, w29 ([(⟨z10.2.2.1, z10.2.2.2.1, z10.2.2.2.2.1, z10.2.2.2.2.2.1, z10.2.2.2.2.2.2.1, z10.2.2.2.2.2.2.2.1, z10.2.2.2.2.2.2.2.2⟩ : S28), x7_7.1] : List S28), .bool false, .bool false, .nils, .nils]) :: (59, w29 ([(⟨z10.2.2.1, z10.2.2.2.1, z10.2.2.2.2.1, z10.2.2.2.2.2.1, z10.2.2.2.2.2.2.1, z10.2.2.2.2.2.2.2.1, z10.2.2.2.2.2.2.2.2⟩ : S28), x7_7.1] : List S28)) :: (58, n29 x7_7.1) :: (57, .i x7_6) :: E13)
       let Q9 : Blk := ⟨[.str a1, w34 a2, .i x7_7.2, .i a4], 4, false⟩
       let Q10 : Blk := ⟨[.i 14, .str x3_1.f1, w29 ([(⟨z10.2.2.1, z10.2.2.2.1, z10.2.2.2.2.1, z10.2.2.2.2.2.1, z10.2.2.2.2.2.2.1, z10.2.2.2.2.2.2.2.1, z10.2.2.2.2.2.2.2.2⟩ : S28), x7_7.1] : List S28), .bool false, .bool false, .nils, .nils], 7, false⟩
       let Q11 : Blk := ⟨[.str a1, w34 a2, .i x6_1, .i a4], 4, false⟩
       refine oD (H' := (mkH [Q9, Q2, Q10, ⟨e34 x3_1, 3, false⟩])) (nav [0] i5p15) E15 [(mkH [Q11, Q2, Q7, ⟨e34 x3_1, 3, false⟩]), (mkH [Q9, Q2, Q7, ⟨e34 x3_1, 3, false⟩]), (mkH [Q9, Q2, Q10, ⟨e34 x3_1, 3, false⟩])] ⟨[59], [(0, 0, 0), (1, 0, 2), (0, 0, 2), (0, 0, 0), (0, 0, 0), (16, 0, 0), (48, 0, 0), (120, 0, 0), (252, 0, 0), (511, 0, 0), (0, 0, 0), (1023, 0, 0), (4095, 0, 0)], 13, thrown, [], H0⟩ (oDr 6 6 E13 (qAu (l' := (opsAt i5p15).toList.drop 7) (eE := ((57, .i x7_6) :: E13)) (hs := [(mkH [Q11, Q2, Q7, ⟨e34 x3_1, 3, false⟩])]) (fi := 54) (args := [.str x3_1.f1]) (v := .i x7_6) (by kernel_rfl) (by kernel_rfl) (by kernel_rfl) (g54_ok k x3_1.f1 x7_6 hx7_6) (by kernel_rfl) (qA4 (l' := (opsAt i5p15).toList.drop 8) (eE := ((58, n29 x7_7.1) :: (57, .i x7_6) :: E13)) (hs := [(mkH [Q9, Q2, Q7, ⟨e34 x3_1, 3, false⟩])]) (H' := (mkH [Q9, Q2, Q7, ⟨e34 x3_1, 3, false⟩])) (fi := 29) (args := [.ptr 0 4 0, .i x7_6]) (v := n29 x7_7.1) (by kernel_rfl) (frC (rs := [0]) (ms := []) (ms' := []) (hF.i5_ok x7_6 a1 a2 x6_1 a4 x7_7 hx7_7) trivial trivial (by kernel_rfl)) (by kernel_rfl) (oDh 5 13 E15 (mkH [Q9, Q2, Q10, ⟨e34 x3_1, 3, false⟩]) [(mkH [Q9, Q2, Q10, ⟨e34 x3_1, 3, false⟩])] .nil)))) ?_
       refine qCt [Q9, Q2, Q10, ⟨e34 x3_1, 3, false⟩] 2 7 [.i 14, .str x3_1.f1, w29 ([(⟨z10.2.2.1, z10.2.2.2.1, z10.2.2.2.2.1, z10.2.2.2.2.2.1, z10.2.2.2.2.2.2.1, z10.2.2.2.2.2.2.2.1, z10.2.2.2.2.2.2.2.2⟩ : S28), x7_7.1] : List S28), .bool false, .bool false, .nils, .nils] [.i 14, .str x3_1.f1, w29 ([(⟨z10.2.2.1, z10.2.2.2.1, z10.2.2.2.2.1, z10.2.2.2.2.2.1, z10.2.2.2.2.2.2.1, z10.2.2.2.2.2.2.2.1, z10.2.2.2.2.2.2.2.2⟩ : S28), x7_7.1] : List S28), .bool false, .bool false, w9 ([] : List (List Nat)), w9 ([] : List (List Nat))] (by kernel_rfl) rfl (.cons (.cons (.cons (.cons (.cons (.nil (.nil (.refl)))))))) ?_
       let Q12 : Blk := ⟨[.i 14, .str x3_1.f1, w29 ([(⟨z10.2.2.1, z10.2.2.2.1, z10.2.2.2.2.1, z10.2.2.2.2.2.1, z10.2.2.2.2.2.2.1, z10.2.2.2.2.2.2.2.1, z10.2.2.2.2.2.2.2.2⟩ : S28), x7_7.1] : List S28), .bool false, .bool false, w9 ([] : List (List Nat)), w9 ([] : List (List Nat))], 7, false⟩
       refine oHp (mkH [Q9, Q2, Q12, ⟨e34 x3_1, 3, false⟩]) ?_
       refine oK [0, 1, 4, 5, 6] [(0, .ptr 0 4 0), (1, .i a0), (4, .ptr 1 7 0), (5, .ptr 2 7 0), (6, .i x4_2)] ?_
       refine qAc [Q9, Q2, Q12] [⟨e34 x3_1, 3, false⟩] (by kernel_rfl) rfl (by kernel_rfl) ⟨(by kernel_rfl), ⟨(by kernel_rfl), ⟨(by kernel_rfl), trivial⟩⟩⟩ ?_
       exact ih x4_2 x7_7.2 14 x3_1.f1 (⟨(([(⟨z10.2.2.1, z10.2.2.2.1, z10.2.2.2.2.1, z10.2.2.2.2.2.1, z10.2.2.2.2.2.2.1, z10.2.2.2.2.2.2.2.1, z10.2.2.2.2.2.2.2.2⟩ : S28), x7_7.1] : List S28)).length, (([(⟨z10.2.2.1, z10.2.2.2.1, z10.2.2.2.2.1, z10.2.2.2.2.2.1, z10.2.2.2.2.2.2.1, z10.2.2.2.2.2.2.2.1, z10.2.2.2.2.2.2.2.2⟩ : S28), x7_7.1] : List S28)).flatMap e29⟩ : Raw) false false ([] : List (List Nat)) ([] : List (List Nat))
    ·refine oS 36 (fun hb => ?_) (fun hb => ?_)
     ·refine oLH 13 i5p13 [(0, .ptr 0 4 0), (1, .i a0), (4, .ptr 1 7 0), (5, .ptr 2 7 0), (7, .ptr 3 3 0), (8, .i x4_2), (48, .bool true)] (mkH [Q1, Q2, Q3, ⟨e34 x3_1, 3, false⟩]) ?_
      exact hj10 (true, y9_1, y9_2, y9_3, y9_4, y9_5, y9_6, y9_7, y9_8)
     ·let E19 : Env := ((42, .bool (decide (x4_2 < maxI a0 1))) :: (41, .bool (decide (x4_2 < maxI a0 1))) :: (40, .bool (decide (x4_2 < maxI a0 1))) :: (39, .i (maxI a0 1)) :: (38, .i a0) :: (37, .i x4_2) :: (36, .bool false) :: E9)
      refine oH 6 (atN 12 (ctl1 i5p12)) E19 (mkH [Q1, Q2, Q3, ⟨e34 x3_1, 3, false⟩]) ?_
      refine oS 42 (fun hb => ?_) (fun hb => ?_)
      ·refine oL 7 i5p13 [(0, .ptr 0 4 0), (1, .i a0), (4, .ptr 1 7 0), (5, .ptr 2 7 0), (7, .ptr 3 3 0), (8, .i x4_2), (48, .bool true)] ?_
       exact hj10 (true, y9_1, y9_2, y9_3, y9_4, y9_5, y9_6, y9_7, y9_8)
      ·refine oR 3 (atN 15 (ctl1 i5p12)) ((45, .str x3_1.f1) :: (44, .ptr 3 3 1) :: (43, .i y9_0) :: (42, .bool false) :: E19) ?_
       refine oA (fun (x5_15 : Int) => .i x5_15) (atN 16 (ctl1 i5p12)) 46 [.str x3_1.f1] (g52_ok k x3_1.f1) fun x5_15 hx5_15 => ?_
       refine oL 3 i5p13 [(0, .ptr 0 4 0), (1, .i a0), (4, .ptr 1 7 0), (5, .ptr 2 7 0), (7, .ptr 3 3 0), (8, .i x4_2), (48, .bool (decide (y9_0 < x5_15)))] ?_
       exact hj10 (decide (y9_0 < x5_15), y9_1, y9_2, y9_3, y9_4, y9_5, y9_6, y9_7, y9_8)
   ·refine oLH 3 i5p10 [(4, .ptr 1 7 0), (5, .ptr 2 7 0)] (mkH [Q1, Q2, Q3]) ?_
    exact hj11 (y9_1, y9_2, y9_3, y9_4, y9_5, y9_6, y9_7, y9_8)
def i5B (k : Nat) (F : Fns0) (a0 : Int) (a1 : (List Nat)) (a2 : (List S33)) (a3 : Int) (a4 : Int) : Option (Option (S28 × Int)) :=
 jn (fun (z8 : Bool × Int) => if z8.1 then (bT (F.i5 (0 : Int) a1 a2 z8.2 a4) fun x1_1 => some (some ((⟨(13 : Int), ([99, 97, 116, 99, 104] : List Nat), ⟨(([(⟨x1_1.1.f0, x1_1.1.f1, x1_1.1.f2, x1_1.1.f3, x1_1.1.f4, x1_1.1.f5, x1_1.1.f6⟩ : S28)] : List S28)).length, (([(⟨x1_1.1.f0, x1_1.1.f1, x1_1.1.f2, x1_1.1.f3, x1_1.1.f4, x1_1.1.f5, x1_1.1.f6⟩ : S28)] : List S28)).flatMap e29⟩, false, false, ([] : List (List Nat)), ([] : List (List Nat))⟩ : S28), x1_1.2))) else (bT (F.i8 a1 a2 z8.2 a4) fun x2_1 => i5_l9 k F a0 a1 a2 a3 a4 k x2_1.2.1 x2_1.2.2 x2_1.1.f0 x2_1.1.f1 x2_1.1.f2 x2_1.1.f3 x2_1.1.f4 x2_1.1.f5 x2_1.1.f6)) (fun j8 => if (decide (a0 ≤ 0)) then (bT (i7 k ([99, 97, 116, 99, 104] : List Nat) a1 a2 a3 a4) fun x0_4 => j8 (x0_4.1, x0_4.2)) else (j8 (false, a3)))
theorem qM8 (k : Nat) (F : Fns0) (hF : FnsOk0 F) (a0 : Int) (a1 : (List Nat)) (a2 : (List S33)) (a3 : Int) (a4 : Int) (r : (Option (S28 × Int))) (h : i5B k F a0 a1 a2 a3 a4 = some r) : CallT Try.prog 29 [.ptr 0 4 0, .i a0] (mkH [⟨[.str a1, w34 a2, .i a3, .i a4], 4, false⟩]) ((Xi5 a0 a1 a2 a3 a4).thr r) ((Xi5 a0 a1 a2 a3 a4).enc r) ((Xi5 a0 a1 a2 a3 a4).fin r) := by
 refine qA2 (Xi5 a0 a1 a2 a3 a4) Try.func29 (by kernel_rfl) (by kernel_rfl) rfl (t := i5B k F a0 a1 a2 a3 a4) ?_ h
 unfold i5B
 refine qA0 (eE := [(0, .ptr 0 4 0), (1, .i a0)]) (by kernel_rfl) ?_
 let E1 : Env := [(11, .bool (decide (a0 ≤ 0))), (10, .bool (decide (a0 ≤ 0))), (9, .i a0), (4, .ptr 1 7 0), (0, .ptr 0 4 0), (1, .i a0)]
 let Q1 : Blk := ⟨[.str a1, w34 a2, .i a3, .i a4], 4, false⟩
 let Q2 : Blk := ⟨[.i 0, .str [], .nils, .bool false, .bool false, .nils, .nils], 0, false⟩
 refine oH 10 (atN 3 (ctl1 i5p1)) E1 (mkH [Q1, Q2]) ?_
 refine oJ i5p2 (fun (z8 : Bool × Int) => [(0, .ptr 0 4 0), (1, .i a0), (4, .ptr 1 7 0), (14, .bool z8.1)]) (fun (z8 : Bool × Int) => (mkH [⟨[.str a1, w34 a2, .i z8.2, .i a4], 4, false⟩, Q2])) (fun z8 => ?_) (fun j8 hj8 => ?_)
 ·refine oS 14 (fun hb => ?_) (fun hb => ?_)
  ·let E2 : Env := [(15, .ptr 0 4 0), (14, .bool true), (0, .ptr 0 4 0), (1, .i a0), (4, .ptr 1 7 0), (14, .bool z8.1)]
   refine oH 4 (atN 1 (ctl1 i5p3)) E2 (mkH [⟨[.str a1, w34 a2, .i z8.2, .i a4], 4, false⟩, Q2]) ?_
   refine oX (fun (x1_1 : (S28 × Int)) => n29 x1_1.1) (fun x1_1 => [⟨[.str a1, w34 a2, .i x1_1.2, .i a4], 4, false⟩, Q2]) (atN 2 (ctl1 i5p3)) 16 [0] [] [] [0] [] [.ptr 0 4 0, .i 0] (hF.i5_thr (0 : Int) a1 a2 z8.2 a4) (hF.i5_ok (0 : Int) a1 a2 z8.2 a4) trivial (fun _ => trivial) trivial fun x1_1 hx1_1 => ?_
   let Q3 : Blk := ⟨[.str a1, w34 a2, .i x1_1.2, .i a4], 4, false⟩
   refine oH 1 (atN 3 (ctl1 i5p3)) ((17, .slice 2 7 0 1 7) :: (16, n29 x1_1.1) :: E2) (mkH [Q3, Q2, ⟨e29 x1_1.1, 0, false⟩]) ?_
   refine oZ 17 2 1 7 [.i x1_1.1.f0, .str x1_1.1.f1, q29 x1_1.1.f2, .bool x1_1.1.f3, .bool x1_1.1.f4, w9 x1_1.1.f5, w9 x1_1.1.f6] [0, 1, 4, 14, 15, 16] [] trivial ?_
   exact oQF 4 [Q3, ⟨[.i 13, .str [99, 97, 116, 99, 104], w29 ([x1_1.1] : List S28), .bool false, .bool false, .nils, .nils], 7, false⟩, ⟨[], 0, false⟩] 1 [] [.agg [.i 13, .str [99, 97, 116, 99, 104], w29 ([x1_1.1] : List S28), .bool false, .bool false, .nils, .nils]] (.agg [.i 13, .str [99, 97, 116, 99, 104], w29 ([x1_1.1] : List S28), .bool false, .bool false, .vec 0 1 [], .vec 0 1 []]) (.agg (.cs (.cs (.cs (.cs (.cs (.nil (.nil .ps))))))) .ps) trivial
  ·refine oH 5 (atN 1 (ctl1 i5p4)) [(20, .ptr 0 4 0), (14, .bool false), (0, .ptr 0 4 0), (1, .i a0), (4, .ptr 1 7 0), (14, .bool z8.1)] (mkH [⟨[.str a1, w34 a2, .i z8.2, .i a4], 4, false⟩, Q2]) ?_
   refine oX (fun (x2_1 : Ri8) => .tuple [n29 x2_1.1, .i x2_1.2.1]) (fun x2_1 => [⟨[.str a1, w34 a2, .i x2_1.2.2, .i a4], 4, false⟩, Q2]) (atN 2 (ctl1 i5p4)) 21 [0] [] [] [0] [] [.ptr 0 4 0] (hF.i8_thr a1 a2 z8.2 a4) (hF.i8_ok a1 a2 z8.2 a4) trivial (fun _ => trivial) trivial fun x2_1 hx2_1 => ?_
   refine oLH 10 i5p6 [(0, .ptr 0 4 0), (1, .i a0), (4, .ptr 1 7 0), (5, .ptr 2 7 0), (6, .i x2_1.2.1)] (mkH [⟨[.str a1, w34 a2, .i x2_1.2.2, .i a4], 4, false⟩, Q2, ⟨e29 x2_1.1, 7, false⟩]) ?_
   exact (i5_l9_ok k F hF a0 a1 a2 a3 a4 k) x2_1.2.1 x2_1.2.2 x2_1.1.f0 x2_1.1.f1 x2_1.1.f2 x2_1.1.f3 x2_1.1.f4 x2_1.1.f5 x2_1.1.f6
 ·refine oS 11 (fun hb => ?_) (fun hb => ?_)
  ·refine oH 1 (atN 4 (ctl1 i5p1)) ((12, .ptr 0 4 0) :: (11, .bool true) :: E1) (mkH [Q1, Q2]) ?_
   refine oX (fun (x0_4 : (Bool × Int)) => .bool x0_4.1) (fun x0_4 => [⟨[.str a1, w34 a2, .i x0_4.2, .i a4], 4, false⟩, Q2]) (atN 5 (ctl1 i5p1)) 13 [0] [] [] [] [] [.ptr 0 4 0, .str [99, 97, 116, 99, 104]] (qAb k ([99, 97, 116, 99, 104] : List Nat) a1 a2 a3 a4) (qAi k ([99, 97, 116, 99, 104] : List Nat) a1 a2 a3 a4) trivial (fun _ => trivial) trivial fun x0_4 hx0_4 => ?_
   refine oL 2 i5p2 [(0, .ptr 0 4 0), (1, .i a0), (4, .ptr 1 7 0), (14, .bool x0_4.1)] ?_
   exact hj8 (x0_4.1, x0_4.2)
  ·refine oLH 4 i5p2 [(0, .ptr 0 4 0), (1, .i a0), (4, .ptr 1 7 0), (14, .bool false)] (mkH [Q1, Q2]) ?_
   exact hj8 (false, a3)
theorem i5B_ok (k : Nat) (F : Fns0) (hF : FnsOk0 F) : Pi5 (i5B k F) := fun a0 a1 a2 a3 a4 x h => qM8 k F hF a0 a1 a2 a3 a4 (some x) h
theorem i5B_thr (k : Nat) (F : Fns0) (hF : FnsOk0 F) : Qi5 (i5B k F) := fun a0 a1 a2 a3 a4 h => ⟨_, qM8 k F hF a0 a1 a2 a3 a4 none h⟩
def Xi50 (a0 : (List Nat)) (a1 : (List S33)) (a2 : Int) (a3 : Int) : Fx (Option (S28 × Int)) := ⟨Try.prog, cx, Try.f110, fun r => match r with | some r => .agg [.i r.1.f0, .str r.1.f1, q29 r.1.f2, .bool r.1.f3, .bool r.1.f4, w9 r.1.f5, w9 r.1.f6] | none => .top, 1, fun r => match r with | some r => (mkH [⟨[.str a0, w34 a1, .i r.2, .i a3], 4, false⟩]) | none => (mkH [⟨[.str a0, w34 a1, .i a2, .i a3], 4, false⟩]), cxTi, cxOrd, fun r => match r with | some _ => none | none => some (thrown, [0]), false⟩
def i50p0 : Pt := nav [0] (bodyAt Try.f110)
def i50p1 : Pt := nav [0, 0, 0] i50p0
def i50p2 : Pt := nav [0, 0, 0, 0, 0] i50p1
def i50p3 : Pt := nav [0, 0, 0] i50p2
def i50p4 : Pt := nav [0, 0] i50p3
def i50p5 : Pt := nav [1, 0, 0] i50p4
def qH1 (k : Nat) (F : Fns0)  (a0 : (List Nat)) (a1 : (List S33)) (a2 : Int) (a3 : Int) (ih : Int → (List S28) → Option (Option (S28 × Int))) : Int → (List S28) → Option (Option (S28 × Int)) :=
 fun (y3_0 : Int) (y3_1 : (List S28)) => bT (i7 k ([59] : List Nat) a0 a1 y3_0 a3) fun x1_1 => if x1_1.1 then (bT (F.i52 a0 a1 x1_1.2 a3) fun x2_3 => (appS 104 y3_1 ([x2_3.1] : List S28)).bind fun x2_5 => ih x2_3.2 x2_5) else (some (some ((⟨(24 : Int), ([] : List Nat), ⟨(y3_1).length, (y3_1).flatMap e29⟩, false, false, ([] : List (List Nat)), ([] : List (List Nat))⟩ : S28), x1_1.2)))
def qMc (k : Nat) (F : Fns0)  (a0 : (List Nat)) (a1 : (List S33)) (a2 : Int) (a3 : Int) (n : Nat) : Int → (List S28) → Option (Option (S28 × Int)) := lp (fun _ _ => none) (qH1 k F a0 a1 a2 a3) n
theorem qMb (k : Nat) (F : Fns0) (hF : FnsOk0 F) (a0 : (List Nat)) (a1 : (List S33)) (a2 : Int) (a3 : Int)    : ∀ (n : Nat) (y3_0 : Int) (y3_1 : (List S28)), Ok (Xi50 a0 a1 a2 a3) i50p2 [(0, .ptr 0 4 0), (2, .ptr 1 7 0), (3, .ptr 3 7 0)] (mkH [⟨[.str a0, w34 a1, .i y3_0, .i a3], 4, false⟩, ⟨[.i 0, .str [], .nils, .bool false, .bool false, .nils, .nils], 0, false⟩, ⟨(y3_1).flatMap e29, 0, false⟩, ⟨[.i 24, .str [], .own 2 (y3_1).length 7, .bool false, .bool false, .nils, .nils], 7, false⟩]) (qMc k F a0 a1 a2 a3 n y3_0 y3_1) := by
 intro n
 induction n with
 | zero => intro y3_0 y3_1; exact ok_none
 | succ n ih =>
  intro y3_0 y3_1
  show Ok _ _ _ _ (qH1 k F a0 a1 a2 a3 (qMc k F a0 a1 a2 a3 n) y3_0 y3_1)
  unfold qH1
  refine qAk (p' := nav [0] i50p2) (by kernel_rfl) ?_
  let Q1 : Blk := ⟨[.i 0, .str [], .nils, .bool false, .bool false, .nils, .nils], 0, false⟩
  let Q2 : Blk := ⟨(y3_1).flatMap e29, 0, false⟩
  let Q3 : Blk := ⟨[.i 24, .str [], .own 2 (y3_1).length 7, .bool false, .bool false, .nils, .nils], 7, false⟩
  refine oH 4 (atN 1 (ctl1 i50p3)) [(8, .ptr 0 4 0), (0, .ptr 0 4 0), (2, .ptr 1 7 0), (3, .ptr 3 7 0)] (mkH [⟨[.str a0, w34 a1, .i y3_0, .i a3], 4, false⟩, Q1, Q2, Q3]) ?_
  refine oX (fun (x1_1 : (Bool × Int)) => .bool x1_1.1) (fun x1_1 => [⟨[.str a0, w34 a1, .i x1_1.2, .i a3], 4, false⟩, Q1, Q2, Q3]) (atN 2 (ctl1 i50p3)) 9 [0] [] [] [3] [0, 0, 1] [.ptr 0 4 0, .str [59]] (qAb k ([59] : List Nat) a0 a1 y3_0 a3) (qAi k ([59] : List Nat) a0 a1 y3_0 a3) trivial (fun _ => trivial) ⟨u29 _, trivial⟩ fun x1_1 hx1_1 => ?_
  let E2 : Env := [(9, .bool x1_1.1), (8, .ptr 0 4 0), (0, .ptr 0 4 0), (2, .ptr 1 7 0), (3, .ptr 3 7 0)]
  refine oR 1 i50p4 E2 ?_
  refine oS 9 (fun hb => ?_) (fun hb => ?_)
  ·refine oR 3 i50p5 ((9, .bool true) :: E2) ?_
   refine qC4 (fun h => ?_) (fun x2_3 hx2_3 => ?_)
   ·let E3 : Env := [(12, .ptr 0 4 0), (11, .own 2 (y3_1).length 7), (10, .ptr 3 7 2), (9, .bool true), (9, .bool x1_1.1), (8, .ptr 0 4 0), (0, .ptr 0 4 0), (2, .ptr 1 7 0), (3, .ptr 3 7 0)]
    let Q4 : Blk := ⟨[.str a0, w34 a1, .i x1_1.2, .i a3], 4, false⟩
    exact qAn (eE := ((16, .top) :: (15, .top) :: (14, .top) :: (13, .top) :: E3)) ⟨[14], [(0, 0, 0), (1, 0, 1), (0, 0, 0), (4, 0, 0), (12, 0, 0), (31, 0, 0), (63, 0, 0), (127, 0, 0)], 3, thrown, [0, 3], (mkH [Q4, Q1, Q2, Q3])⟩ (hs := [(mkH [Q4, Q1, Q2, Q3]), (mkH [Q4, Q1, Q2, Q3]), (mkH [Q4, Q1, Q2, Q3])]) (LX := [⟨[.str a0, w34 a1, .i a2, .i a3], 4, false⟩]) (L := [Q4, Q1, Q2, Q3]) rfl rfl rfl (by kernel_rfl) rfl ⟨.inl rfl, trivial⟩ (by kernel_rfl) (by kernel_rfl) (by kernel_rfl) (by kernel_rfl) (qAa 3 (l' := (opsAt i50p5).toList.drop 3) (eE := E3) (H' := (mkH [Q4, Q1, Q2, Q3])) (hs := []) (by kernel_rfl) (qAm (l' := (opsAt i50p5).toList.drop 4) (eE := ((13, .top) :: E3)) (hs := [(mkH [Q4, Q1, Q2, Q3])]) (fi := 113) (args := [.ptr 0 4 0]) (by kernel_rfl) (by kernel_rfl) (frS 0 (M := [Q4, Q1, Q2, Q3]) (rs := [0]) (ms := []) (mv := [0, 0, 1]) (mm := [0, 0, 1]) (D := [0, 3]) (xs' := [.ptr 0 4 0]) (.refl) (hF.i52_thr a0 a1 x1_1.2 a3 h) trivial ⟨u29 _, trivial⟩ (by kernel_rfl)) (by kernel_rfl) (qA1 (l' := (opsAt i50p5).toList.drop 5) (eE := ((14, .top) :: (13, .top) :: E3)) (hs := []) (by kernel_rfl) (by kernel_rfl) (qA1 (l' := (opsAt i50p5).toList.drop 6) (eE := ((15, .top) :: (14, .top) :: (13, .top) :: E3)) (hs := [(mkH [Q4, Q1, Q2, Q3])]) (by kernel_rfl) (by kernel_rfl) (qA1 (l' := (opsAt i50p5).toList.drop 7) (eE := ((16, .top) :: (15, .top) :: (14, .top) :: (13, .top) :: E3)) (hs := []) (by kernel_rfl) (by kernel_rfl) (qA1 (l' := (opsAt i50p5).toList.drop 8) (eE := ((16, .top) :: (15, .top) :: (14, .top) :: (13, .top) :: E3)) (hs := [(mkH [Q4, Q1, Q2, Q3])]) (by kernel_rfl) (by kernel_rfl) (.nil))))))) (by kernel_rfl) (by kernel_rfl)
   ·refine qA9 (fun x2_5 hx2_5 => ?_)
    let E3 : Env := [(12, .ptr 0 4 0), (11, .own 2 (y3_1).length 7), (10, .ptr 3 7 2), (9, .bool true), (9, .bool x1_1.1), (8, .ptr 0 4 0), (0, .ptr 0 4 0), (2, .ptr 1 7 0), (3, .ptr 3 7 0)]
    let Q5 : Blk := ⟨[.str a0, w34 a1, .i x2_3.2, .i a3], 4, false⟩
    refine oD (H' := (mkH [Q5, Q1, ⟨(x2_5).flatMap e29, 0, false⟩, ⟨[.i 24, .str [], .own 2 (x2_5).length 7, .bool false, .bool false, .nils, .nils], 7, false⟩])) (nav [0] i50p5) ((16, .ptr 3 7 2) :: (15, .own 2 (x2_5).length 7) :: (14, w29 ([x2_3.1] : List S28)) :: (13, n29 x2_3.1) :: E3) [(mkH [Q5, Q1, Q2, Q3]), (mkH [Q5, Q1, ⟨(x2_5).flatMap e29, 0, false⟩, Q3]), (mkH [Q5, Q1, ⟨(x2_5).flatMap e29, 0, false⟩, ⟨[.i 24, .str [], .own 2 (x2_5).length 7, .bool false, .bool false, .nils, .nils], 7, false⟩])] ⟨[14], [(0, 0, 0), (1, 0, 1), (0, 0, 0), (4, 0, 0), (12, 0, 0), (31, 0, 0), (63, 0, 0), (127, 0, 0)], 8, thrown, [], H0⟩ (oDr 3 3 E3 (qA4 (l' := (opsAt i50p5).toList.drop 4) (eE := ((13, n29 x2_3.1) :: E3)) (hs := [(mkH [Q5, Q1, Q2, Q3])]) (H' := (mkH [Q5, Q1, Q2, Q3])) (fi := 113) (args := [.ptr 0 4 0]) (v := n29 x2_3.1) (by kernel_rfl) (frC (rs := [0]) (ms := []) (ms' := []) (hF.i52_ok a0 a1 x1_1.2 a3 x2_3 hx2_3) trivial trivial (by kernel_rfl)) (by kernel_rfl) (oDr 1 5 ((14, w29 ([x2_3.1] : List S28)) :: (13, n29 x2_3.1) :: E3) (qA8 (l' := (opsAt i50p5).toList.drop 6) (eE := ((15, .own 2 (x2_5).length 7) :: (14, w29 ([x2_3.1] : List S28)) :: (13, n29 x2_3.1) :: E3)) (hs := [(mkH [Q5, Q1, ⟨(x2_5).flatMap e29, 0, false⟩, Q3])]) (x := x2_5) (fun (x2_5 : (List S28)) => (.own 2 (x2_5).length 7, (mkH [Q5, Q1, ⟨(x2_5).flatMap e29, 0, false⟩, Q3]))) (appHV (sz := 7) qA7 rfl qAx [Q5, Q1, Q2, Q3] 2 104 y3_1 ([x2_3.1] : List S28) rfl rfl (by kernel_rfl)) hx2_5 (by kernel_rfl) (oDh 2 8 ((16, .ptr 3 7 2) :: (15, .own 2 (x2_5).length 7) :: (14, w29 ([x2_3.1] : List S28)) :: (13, n29 x2_3.1) :: E3) (mkH [Q5, Q1, ⟨(x2_5).flatMap e29, 0, false⟩, ⟨[.i 24, .str [], .own 2 (x2_5).length 7, .bool false, .bool false, .nils, .nils], 7, false⟩]) [(mkH [Q5, Q1, ⟨(x2_5).flatMap e29, 0, false⟩, ⟨[.i 24, .str [], .own 2 (x2_5).length 7, .bool false, .bool false, .nils, .nils], 7, false⟩])] .nil))))) ?_
    refine oK [0, 2, 3] [(0, .ptr 0 4 0), (2, .ptr 1 7 0), (3, .ptr 3 7 0)] ?_
    exact ih x2_3.2 x2_5
  ·exact oQF 8 [⟨[.str a0, w34 a1, .i x1_1.2, .i a3], 4, false⟩, Q3, Q2, Q3] 1 [] [.agg [.i 24, .str [], .own 2 (y3_1).length 7, .bool false, .bool false, .nils, .nils]] (.agg [.i 24, .str [], w29 y3_1, .bool false, .bool false, .vec 0 1 [], .vec 0 1 []]) (.agg (.cs (.cs (qAs qA7 qAg rfl rfl rfl (.cs (.cs (.nil (.nil .ps))))))) .ps) trivial
def i50B (k : Nat) (F : Fns0) (a0 : (List Nat)) (a1 : (List S33)) (a2 : Int) (a3 : Int) : Option (Option (S28 × Int)) :=
 bT (F.i52 a0 a1 a2 a3) fun x0_1 => qMc k F a0 a1 a2 a3 k x0_1.2 ([(⟨x0_1.1.f0, x0_1.1.f1, x0_1.1.f2, x0_1.1.f3, x0_1.1.f4, x0_1.1.f5, x0_1.1.f6⟩ : S28)] : List S28)
theorem qIt (k : Nat) (F : Fns0) (hF : FnsOk0 F) (a0 : (List Nat)) (a1 : (List S33)) (a2 : Int) (a3 : Int) (r : (Option (S28 × Int))) (h : i50B k F a0 a1 a2 a3 = some r) : CallT Try.prog 110 [.ptr 0 4 0] (mkH [⟨[.str a0, w34 a1, .i a2, .i a3], 4, false⟩]) ((Xi50 a0 a1 a2 a3).thr r) ((Xi50 a0 a1 a2 a3).enc r) ((Xi50 a0 a1 a2 a3).fin r) := by
 refine qA2 (Xi50 a0 a1 a2 a3) Try.func110 (by kernel_rfl) (by kernel_rfl) rfl (t := i50B k F a0 a1 a2 a3) ?_ h
 unfold i50B
 refine qA0 (eE := [(0, .ptr 0 4 0)]) (by kernel_rfl) ?_
 let Q1 : Blk := ⟨[.i 0, .str [], .nils, .bool false, .bool false, .nils, .nils], 0, false⟩
 refine oH 7 (atN 1 (ctl1 i50p1)) [(4, .ptr 0 4 0), (2, .ptr 1 7 0), (0, .ptr 0 4 0)] (mkH [⟨[.str a0, w34 a1, .i a2, .i a3], 4, false⟩, Q1]) ?_
 refine oX (fun (x0_1 : (S28 × Int)) => n29 x0_1.1) (fun x0_1 => [⟨[.str a0, w34 a1, .i x0_1.2, .i a3], 4, false⟩, Q1]) (atN 2 (ctl1 i50p1)) 5 [0] [] [] [0] [] [.ptr 0 4 0] (hF.i52_thr a0 a1 a2 a3) (hF.i52_ok a0 a1 a2 a3) trivial (fun _ => trivial) trivial fun x0_1 hx0_1 => ?_
 let Q2 : Blk := ⟨[.str a0, w34 a1, .i x0_1.2, .i a3], 4, false⟩
 refine oH 1 (atN 3 (ctl1 i50p1)) [(6, .slice 2 7 0 1 7), (5, n29 x0_1.1), (4, .ptr 0 4 0), (2, .ptr 1 7 0), (0, .ptr 0 4 0)] (mkH [Q2, Q1, ⟨e29 x0_1.1, 0, false⟩]) ?_
 refine qCl 6 2 7 1 7 (by kernel_rfl) rfl ?_
 refine oLH 7 i50p2 [(0, .ptr 0 4 0), (2, .ptr 1 7 0), (3, .ptr 3 7 0)] (mkH [Q2, Q1, ⟨(([x0_1.1] : List S28)).flatMap e29, 0, false⟩, ⟨[.i 24, .str [], .own 2 (([x0_1.1] : List S28)).length 7, .bool false, .bool false, .nils, .nils], 7, false⟩]) ?_
 exact (qMb k F hF a0 a1 a2 a3 k) x0_1.2 ([x0_1.1] : List S28)
theorem i50B_ok (k : Nat) (F : Fns0) (hF : FnsOk0 F) : Pi50 (i50B k F) := fun a0 a1 a2 a3 x h => qIt k F hF a0 a1 a2 a3 (some x) h
theorem i50B_thr (k : Nat) (F : Fns0) (hF : FnsOk0 F) : Qi50 (i50B k F) := fun a0 a1 a2 a3 h => ⟨_, qIt k F hF a0 a1 a2 a3 none h⟩
def Xi51 (a0 : (List Nat)) (a1 : (List S33)) (a2 : Int) (a3 : Int) : Fx (Option (S28 × Int)) := ⟨Try.prog, cx, Try.f112, fun r => match r with | some r => .agg [.i r.1.f0, .str r.1.f1, q29 r.1.f2, .bool r.1.f3, .bool r.1.f4, w9 r.1.f5, w9 r.1.f6] | none => .top, 1, fun r => match r with | some r => (mkH [⟨[.str a0, w34 a1, .i r.2, .i a3], 4, false⟩]) | none => (mkH [⟨[.str a0, w34 a1, .i a2, .i a3], 4, false⟩]), cxTi, cxOrd, fun r => match r with | some _ => none | none => some (thrown, [0]), false⟩
def i51p0 : Pt := nav [0] (bodyAt Try.f112)
def i51p1 : Pt := nav [0, 0, 0] i51p0
def i51p2 : Pt := nav [0, 0, 0] i51p1
def i51B (k : Nat) (F : Fns0) (a0 : (List Nat)) (a1 : (List S33)) (a2 : Int) (a3 : Int) : Option (Option (S28 × Int)) :=
 bT (i23 k ([40] : List Nat) a0 a1 a2 a3) fun x0_1 => bT (F.i18 (23 : Int) ([] : List Nat) false false ([] : List (List Nat)) ([] : List (List Nat)) ([41] : List Nat) a0 a1 x0_1 a3 ([] : List S28)) fun x1_4 => some (some ((⟨x1_4.1, x1_4.2.1, ⟨(x1_4.2.2.2.2.2.2.2).length, (x1_4.2.2.2.2.2.2.2).flatMap e29⟩, x1_4.2.2.1, x1_4.2.2.2.1, x1_4.2.2.2.2.1, x1_4.2.2.2.2.2.1⟩ : S28), x1_4.2.2.2.2.2.2.1))
theorem qIs (k : Nat) (F : Fns0) (hF : FnsOk0 F) (a0 : (List Nat)) (a1 : (List S33)) (a2 : Int) (a3 : Int) (r : (Option (S28 × Int))) (h : i51B k F a0 a1 a2 a3 = some r) : CallT Try.prog 112 [.ptr 0 4 0] (mkH [⟨[.str a0, w34 a1, .i a2, .i a3], 4, false⟩]) ((Xi51 a0 a1 a2 a3).thr r) ((Xi51 a0 a1 a2 a3).enc r) ((Xi51 a0 a1 a2 a3).fin r) := by
 refine qA2 (Xi51 a0 a1 a2 a3) Try.func112 (by kernel_rfl) (by kernel_rfl) rfl (t := i51B k F a0 a1 a2 a3) ?_ h
 unfold i51B
 refine qA0 (eE := [(0, .ptr 0 4 0)]) (by kernel_rfl) ?_
 let Q1 : Blk := ⟨[.i 0, .str [], .nils, .bool false, .bool false, .nils, .nils], 0, false⟩
 refine oH 7 (atN 1 (ctl1 i51p1)) [(3, .ptr 0 4 0), (2, .ptr 1 7 0), (0, .ptr 0 4 0)] (mkH [⟨[.str a0, w34 a1, .i a2, .i a3], 4, false⟩, Q1]) ?_
 refine oX (fun (x0_1 : Int) => .tuple []) (fun x0_1 => [⟨[.str a0, w34 a1, .i x0_1, .i a3], 4, false⟩, Q1]) (atN 2 (ctl1 i51p1)) 4 [0] [] [] [0] [] [.ptr 0 4 0, .str [40]] (qAj k ([40] : List Nat) a0 a1 a2 a3) (qAw k ([40] : List Nat) a0 a1 a2 a3) trivial (fun _ => trivial) trivial fun x0_1 hx0_1 => ?_
 refine oR 7 (atN 4 (ctl1 i51p2)) [(8, .func 78 [.ptr 0 4 0] []), (7, .ptr 0 4 0), (6, .agg [.i 23, .str [], .nils, .bool false, .bool false, .nils, .nils]), (5, .ptr 0 4 0), (4, .tuple []), (3, .ptr 0 4 0), (2, .ptr 1 7 0), (0, .ptr 0 4 0)] ?_
 refine oXW 1 [⟨[.str a0, w34 a1, .i x0_1, .i a3], 4, false⟩, Q1, ⟨(([] : List S28)).flatMap e29, 0, false⟩] (fun (x1_4 : Ri18) => .agg [.i x1_4.1, .str x1_4.2.1, .own 2 (x1_4.2.2.2.2.2.2.2).length 7, .bool x1_4.2.2.1, .bool x1_4.2.2.2.1, w9 x1_4.2.2.2.2.1, w9 x1_4.2.2.2.2.2.1]) (fun x1_4 => [⟨[.str a0, w34 a1, .i x1_4.2.2.2.2.2.2.1, .i a3], 4, false⟩, Q1, ⟨(x1_4.2.2.2.2.2.2.2).flatMap e29, 0, false⟩]) (atN 5 (ctl1 i51p2)) 9 [0, 2] [0, 1] [0, 1] [0, 2] [] [0, 0, 1] [.ptr 0 4 0, .agg [.i 23, .str [], .nils, .bool false, .bool false, .nils, .nils], .str [41], .func 78 [.ptr 0 4 0] []] [.ptr 0 4 0, .agg [.i 23, .str [], .own 2 (([] : List S28)).length 7, .bool false, .bool false, w9 ([] : List (List Nat)), w9 ([] : List (List Nat))], .str [41], .func 78 [.ptr 0 4 0] []] (.cons (.agg (.cons (.cons (.none (.cons (.cons (.nil (.nil (.refl)))))))) (.refl))) (hF.i18_thr (23 : Int) ([] : List Nat) false false ([] : List (List Nat)) ([] : List (List Nat)) ([41] : List Nat) a0 a1 x0_1 a3 ([] : List S28)) (hF.i18_ok (23 : Int) ([] : List Nat) false false ([] : List (List Nat)) ([] : List (List Nat)) ([41] : List Nat) a0 a1 x0_1 a3 ([] : List S28)) ⟨u29 _, trivial⟩ (fun _ => ⟨u29 _, trivial⟩) trivial fun x1_4 hx1_4 => ?_
 exact oQF 3 [⟨[.str a0, w34 a1, .i x1_4.2.2.2.2.2.2.1, .i a3], 4, false⟩, ⟨[.i x1_4.1, .str x1_4.2.1, .own 2 (x1_4.2.2.2.2.2.2.2).length 7, .bool x1_4.2.2.1, .bool x1_4.2.2.2.1, w9 x1_4.2.2.2.2.1, w9 x1_4.2.2.2.2.2.1], 7, false⟩, ⟨(x1_4.2.2.2.2.2.2.2).flatMap e29, 0, false⟩] 1 [] [.agg [.i x1_4.1, .str x1_4.2.1, .own 2 (x1_4.2.2.2.2.2.2.2).length 7, .bool x1_4.2.2.1, .bool x1_4.2.2.2.1, w9 x1_4.2.2.2.2.1, w9 x1_4.2.2.2.2.2.1]] (.agg [.i x1_4.1, .str x1_4.2.1, w29 x1_4.2.2.2.2.2.2.2, .bool x1_4.2.2.1, .bool x1_4.2.2.2.1, w9 x1_4.2.2.2.2.1, w9 x1_4.2.2.2.2.2.1]) (.agg (.cs (.cs (qAs qA7 qAg rfl rfl rfl .ps))) .ps) trivial
theorem i51B_ok (k : Nat) (F : Fns0) (hF : FnsOk0 F) : Pi51 (i51B k F) := fun a0 a1 a2 a3 x h => qIs k F hF a0 a1 a2 a3 (some x) h
theorem i51B_thr (k : Nat) (F : Fns0) (hF : FnsOk0 F) : Qi51 (i51B k F) := fun a0 a1 a2 a3 h => ⟨_, qIs k F hF a0 a1 a2 a3 none h⟩
def Xi52 (a0 : (List Nat)) (a1 : (List S33)) (a2 : Int) (a3 : Int) : Fx (Option (S28 × Int)) := ⟨Try.prog, cx, Try.f113, fun r => match r with | some r => .agg [.i r.1.f0, .str r.1.f1, q29 r.1.f2, .bool r.1.f3, .bool r.1.f4, w9 r.1.f5, w9 r.1.f6] | none => .top, 1, fun r => match r with | some r => (mkH [⟨[.str a0, w34 a1, .i r.2, .i a3], 4, false⟩]) | none => (mkH [⟨[.str a0, w34 a1, .i a2, .i a3], 4, false⟩]), cxTi, cxOrd, fun r => match r with | some _ => none | none => some (thrown, [0]), false⟩
def i52p0 : Pt := nav [0] (bodyAt Try.f113)
def i52p1 : Pt := nav [0, 0, 0] i52p0
def i52p2 : Pt := nav [0, 0, 0, 0, 0] i52p1
def i52p3 : Pt := nav [0, 0, 0] i52p2
def i52p4 : Pt := nav [0, 0] i52p3
def i52p5 : Pt := nav [1, 0, 0] i52p4
def qH0 (k : Nat) (F : Fns0)  (a0 : (List Nat)) (a1 : (List S33)) (a2 : Int) (a3 : Int) (ih : Int → (List S28) → Option (Option (S28 × Int))) : Int → (List S28) → Option (Option (S28 × Int)) :=
 fun (y3_0 : Int) (y3_1 : (List S28)) => bT (i7 k ([44] : List Nat) a0 a1 y3_0 a3) fun x1_1 => if x1_1.1 then (bT (F.i5 (1 : Int) a0 a1 x1_1.2 a3) fun x2_3 => (appS 104 y3_1 ([x2_3.1] : List S28)).bind fun x2_5 => ih x2_3.2 x2_5) else (some (some ((⟨(25 : Int), ([] : List Nat), ⟨(y3_1).length, (y3_1).flatMap e29⟩, false, false, ([] : List (List Nat)), ([] : List (List Nat))⟩ : S28), x1_1.2)))
def qMa (k : Nat) (F : Fns0)  (a0 : (List Nat)) (a1 : (List S33)) (a2 : Int) (a3 : Int) (n : Nat) : Int → (List S28) → Option (Option (S28 × Int)) := lp (fun _ _ => none) (qH0 k F a0 a1 a2 a3) n
theorem qM9 (k : Nat) (F : Fns0) (hF : FnsOk0 F) (a0 : (List Nat)) (a1 : (List S33)) (a2 : Int) (a3 : Int)    : ∀ (n : Nat) (y3_0 : Int) (y3_1 : (List S28)), Ok (Xi52 a0 a1 a2 a3) i52p2 [(0, .ptr 0 4 0), (2, .ptr 1 7 0), (3, .ptr 3 7 0)] (mkH [⟨[.str a0, w34 a1, .i y3_0, .i a3], 4, false⟩, ⟨[.i 0, .str [], .nils, .bool false, .bool false, .nils, .nils], 0, false⟩, ⟨(y3_1).flatMap e29, 0, false⟩, ⟨[.i 25, .str [], .own 2 (y3_1).length 7, .bool false, .bool false, .nils, .nils], 7, false⟩]) (qMa k F a0 a1 a2 a3 n y3_0 y3_1) := by
 intro n
 induction n with
 | zero => intro y3_0 y3_1; exact ok_none
 | succ n ih =>
  intro y3_0 y3_1
  show Ok _ _ _ _ (qH0 k F a0 a1 a2 a3 (qMa k F a0 a1 a2 a3 n) y3_0 y3_1)
  unfold qH0
  refine qAk (p' := nav [0] i52p2) (by kernel_rfl) ?_
  let Q1 : Blk := ⟨[.i 0, .str [], .nils, .bool false, .bool false, .nils, .nils], 0, false⟩
  let Q2 : Blk := ⟨(y3_1).flatMap e29, 0, false⟩
  let Q3 : Blk := ⟨[.i 25, .str [], .own 2 (y3_1).length 7, .bool false, .bool false, .nils, .nils], 7, false⟩
  refine oH 4 (atN 1 (ctl1 i52p3)) [(8, .ptr 0 4 0), (0, .ptr 0 4 0), (2, .ptr 1 7 0), (3, .ptr 3 7 0)] (mkH [⟨[.str a0, w34 a1, .i y3_0, .i a3], 4, false⟩, Q1, Q2, Q3]) ?_
  refine oX (fun (x1_1 : (Bool × Int)) => .bool x1_1.1) (fun x1_1 => [⟨[.str a0, w34 a1, .i x1_1.2, .i a3], 4, false⟩, Q1, Q2, Q3]) (atN 2 (ctl1 i52p3)) 9 [0] [] [] [3] [0, 0, 1] [.ptr 0 4 0, .str [44]] (qAb k ([44] : List Nat) a0 a1 y3_0 a3) (qAi k ([44] : List Nat) a0 a1 y3_0 a3) trivial (fun _ => trivial) ⟨u29 _, trivial⟩ fun x1_1 hx1_1 => ?_
  let E2 : Env := [(9, .bool x1_1.1), (8, .ptr 0 4 0), (0, .ptr 0 4 0), (2, .ptr 1 7 0), (3, .ptr 3 7 0)]
  refine oR 1 i52p4 E2 ?_
  refine oS 9 (fun hb => ?_) (fun hb => ?_)
  ·refine oR 3 i52p5 ((9, .bool true) :: E2) ?_
   refine qC4 (fun h => ?_) (fun x2_3 hx2_3 => ?_)
   ·let E3 : Env := [(12, .ptr 0 4 0), (11, .own 2 (y3_1).length 7), (10, .ptr 3 7 2), (9, .bool true), (9, .bool x1_1.1), (8, .ptr 0 4 0), (0, .ptr 0 4 0), (2, .ptr 1 7 0), (3, .ptr 3 7 0)]
    let Q4 : Blk := ⟨[.str a0, w34 a1, .i x1_1.2, .i a3], 4, false⟩
    exact qAn (eE := ((16, .top) :: (15, .top) :: (14, .top) :: (13, .top) :: E3)) ⟨[14], [(0, 0, 0), (1, 0, 1), (0, 0, 0), (4, 0, 0), (12, 0, 0), (31, 0, 0), (63, 0, 0), (127, 0, 0)], 3, thrown, [0, 3], (mkH [Q4, Q1, Q2, Q3])⟩ (hs := [(mkH [Q4, Q1, Q2, Q3]), (mkH [Q4, Q1, Q2, Q3]), (mkH [Q4, Q1, Q2, Q3])]) (LX := [⟨[.str a0, w34 a1, .i a2, .i a3], 4, false⟩]) (L := [Q4, Q1, Q2, Q3]) rfl rfl rfl (by kernel_rfl) rfl ⟨.inl rfl, trivial⟩ (by kernel_rfl) (by kernel_rfl) (by kernel_rfl) (by kernel_rfl) (qAa 3 (l' := (opsAt i52p5).toList.drop 3) (eE := E3) (H' := (mkH [Q4, Q1, Q2, Q3])) (hs := []) (by kernel_rfl) (qAm (l' := (opsAt i52p5).toList.drop 4) (eE := ((13, .top) :: E3)) (hs := [(mkH [Q4, Q1, Q2, Q3])]) (fi := 29) (args := [.ptr 0 4 0, .i 1]) (by kernel_rfl) (by kernel_rfl) (frS 0 (M := [Q4, Q1, Q2, Q3]) (rs := [0]) (ms := []) (mv := [0, 0, 1]) (mm := [0, 0, 1]) (D := [0, 3]) (xs' := [.ptr 0 4 0, .i 1]) (.refl) (hF.i5_thr (1 : Int) a0 a1 x1_1.2 a3 h) trivial ⟨u29 _, trivial⟩ (by kernel_rfl)) (by kernel_rfl) (qA1 (l' := (opsAt i52p5).toList.drop 5) (eE := ((14, .top) :: (13, .top) :: E3)) (hs := []) (by kernel_rfl) (by kernel_rfl) (qA1 (l' := (opsAt i52p5).toList.drop 6) (eE := ((15, .top) :: (14, .top) :: (13, .top) :: E3)) (hs := [(mkH [Q4, Q1, Q2, Q3])]) (by kernel_rfl) (by kernel_rfl) (qA1 (l' := (opsAt i52p5).toList.drop 7) (eE := ((16, .top) :: (15, .top) :: (14, .top) :: (13, .top) :: E3)) (hs := []) (by kernel_rfl) (by kernel_rfl) (qA1 (l' := (opsAt i52p5).toList.drop 8) (eE := ((16, .top) :: (15, .top) :: (14, .top) :: (13, .top) :: E3)) (hs := [(mkH [Q4, Q1, Q2, Q3])]) (by kernel_rfl) (by kernel_rfl) (.nil))))))) (by kernel_rfl) (by kernel_rfl)
   ·refine qA9 (fun x2_5 hx2_5 => ?_)
    let E3 : Env := [(12, .ptr 0 4 0), (11, .own 2 (y3_1).length 7), (10, .ptr 3 7 2), (9, .bool true), (9, .bool x1_1.1), (8, .ptr 0 4 0), (0, .ptr 0 4 0), (2, .ptr 1 7 0), (3, .ptr 3 7 0)]
    let Q5 : Blk := ⟨[.str a0, w34 a1, .i x2_3.2, .i a3], 4, false⟩
    refine oD (H' := (mkH [Q5, Q1, ⟨(x2_5).flatMap e29, 0, false⟩, ⟨[.i 25, .str [], .own 2 (x2_5).length 7, .bool false, .bool false, .nils, .nils], 7, false⟩])) (nav [0] i52p5) ((16, .ptr 3 7 2) :: (15, .own 2 (x2_5).length 7) :: (14, w29 ([x2_3.1] : List S28)) :: (13, n29 x2_3.1) :: E3) [(mkH [Q5, Q1, Q2, Q3]), (mkH [Q5, Q1, ⟨(x2_5).flatMap e29, 0, false⟩, Q3]), (mkH [Q5, Q1, ⟨(x2_5).flatMap e29, 0, false⟩, ⟨[.i 25, .str [], .own 2 (x2_5).length 7, .bool false, .bool false, .nils, .nils], 7, false⟩])] ⟨[14], [(0, 0, 0), (1, 0, 1), (0, 0, 0), (4, 0, 0), (12, 0, 0), (31, 0, 0), (63, 0, 0), (127, 0, 0)], 8, thrown, [], H0⟩ (oDr 3 3 E3 (qA4 (l' := (opsAt i52p5).toList.drop 4) (eE := ((13, n29 x2_3.1) :: E3)) (hs := [(mkH [Q5, Q1, Q2, Q3])]) (H' := (mkH [Q5, Q1, Q2, Q3])) (fi := 29) (args := [.ptr 0 4 0, .i 1]) (v := n29 x2_3.1) (by kernel_rfl) (frC (rs := [0]) (ms := []) (ms' := []) (hF.i5_ok (1 : Int) a0 a1 x1_1.2 a3 x2_3 hx2_3) trivial trivial (by kernel_rfl)) (by kernel_rfl) (oDr 1 5 ((14, w29 ([x2_3.1] : List S28)) :: (13, n29 x2_3.1) :: E3) (qA8 (l' := (opsAt i52p5).toList.drop 6) (eE := ((15, .own 2 (x2_5).length 7) :: (14, w29 ([x2_3.1] : List S28)) :: (13, n29 x2_3.1) :: E3)) (hs := [(mkH [Q5, Q1, ⟨(x2_5).flatMap e29, 0, false⟩, Q3])]) (x := x2_5) (fun (x2_5 : (List S28)) => (.own 2 (x2_5).length 7, (mkH [Q5, Q1, ⟨(x2_5).flatMap e29, 0, false⟩, Q3]))) (appHV (sz := 7) qA7 rfl qAx [Q5, Q1, Q2, Q3] 2 104 y3_1 ([x2_3.1] : List S28) rfl rfl (by kernel_rfl)) hx2_5 (by kernel_rfl) (oDh 2 8 ((16, .ptr 3 7 2) :: (15, .own 2 (x2_5).length 7) :: (14, w29 ([x2_3.1] : List S28)) :: (13, n29 x2_3.1) :: E3) (mkH [Q5, Q1, ⟨(x2_5).flatMap e29, 0, false⟩, ⟨[.i 25, .str [], .own 2 (x2_5).length 7, .bool false, .bool false, .nils, .nils], 7, false⟩]) [(mkH [Q5, Q1, ⟨(x2_5).flatMap e29, 0, false⟩, ⟨[.i 25, .str [], .own 2 (x2_5).length 7, .bool false, .bool false, .nils, .nils], 7, false⟩])] .nil))))) ?_
    refine oK [0, 2, 3] [(0, .ptr 0 4 0), (2, .ptr 1 7 0), (3, .ptr 3 7 0)] ?_
    exact ih x2_3.2 x2_5
  ·exact oQF 8 [⟨[.str a0, w34 a1, .i x1_1.2, .i a3], 4, false⟩, Q3, Q2, Q3] 1 [] [.agg [.i 25, .str [], .own 2 (y3_1).length 7, .bool false, .bool false, .nils, .nils]] (.agg [.i 25, .str [], w29 y3_1, .bool false, .bool false, .vec 0 1 [], .vec 0 1 []]) (.agg (.cs (.cs (qAs qA7 qAg rfl rfl rfl (.cs (.cs (.nil (.nil .ps))))))) .ps) trivial
def i52B (k : Nat) (F : Fns0) (a0 : (List Nat)) (a1 : (List S33)) (a2 : Int) (a3 : Int) : Option (Option (S28 × Int)) :=
 bT (F.i5 (1 : Int) a0 a1 a2 a3) fun x0_1 => qMa k F a0 a1 a2 a3 k x0_1.2 ([(⟨x0_1.1.f0, x0_1.1.f1, x0_1.1.f2, x0_1.1.f3, x0_1.1.f4, x0_1.1.f5, x0_1.1.f6⟩ : S28)] : List S28)
theorem qIr (k : Nat) (F : Fns0) (hF : FnsOk0 F) (a0 : (List Nat)) (a1 : (List S33)) (a2 : Int) (a3 : Int) (r : (Option (S28 × Int))) (h : i52B k F a0 a1 a2 a3 = some r) : CallT Try.prog 113 [.ptr 0 4 0] (mkH [⟨[.str a0, w34 a1, .i a2, .i a3], 4, false⟩]) ((Xi52 a0 a1 a2 a3).thr r) ((Xi52 a0 a1 a2 a3).enc r) ((Xi52 a0 a1 a2 a3).fin r) := by
 refine qA2 (Xi52 a0 a1 a2 a3) Try.func113 (by kernel_rfl) (by kernel_rfl) rfl (t := i52B k F a0 a1 a2 a3) ?_ h
 unfold i52B
 refine qA0 (eE := [(0, .ptr 0 4 0)]) (by kernel_rfl) ?_
 let Q1 : Blk := ⟨[.i 0, .str [], .nils, .bool false, .bool false, .nils, .nils], 0, false⟩
 refine oH 7 (atN 1 (ctl1 i52p1)) [(4, .ptr 0 4 0), (2, .ptr 1 7 0), (0, .ptr 0 4 0)] (mkH [⟨[.str a0, w34 a1, .i a2, .i a3], 4, false⟩, Q1]) ?_
 refine oX (fun (x0_1 : (S28 × Int)) => n29 x0_1.1) (fun x0_1 => [⟨[.str a0, w34 a1, .i x0_1.2, .i a3], 4, false⟩, Q1]) (atN 2 (ctl1 i52p1)) 5 [0] [] [] [0] [] [.ptr 0 4 0, .i 1] (hF.i5_thr (1 : Int) a0 a1 a2 a3) (hF.i5_ok (1 : Int) a0 a1 a2 a3) trivial (fun _ => trivial) trivial fun x0_1 hx0_1 => ?_
 let Q2 : Blk := ⟨[.str a0, w34 a1, .i x0_1.2, .i a3], 4, false⟩
 refine oH 1 (atN 3 (ctl1 i52p1)) [(6, .slice 2 7 0 1 7), (5, n29 x0_1.1), (4, .ptr 0 4 0), (2, .ptr 1 7 0), (0, .ptr 0 4 0)] (mkH [Q2, Q1, ⟨e29 x0_1.1, 0, false⟩]) ?_
 refine qCl 6 2 7 1 7 (by kernel_rfl) rfl ?_
 refine oLH 7 i52p2 [(0, .ptr 0 4 0), (2, .ptr 1 7 0), (3, .ptr 3 7 0)] (mkH [Q2, Q1, ⟨(([x0_1.1] : List S28)).flatMap e29, 0, false⟩, ⟨[.i 25, .str [], .own 2 (([x0_1.1] : List S28)).length 7, .bool false, .bool false, .nils, .nils], 7, false⟩]) ?_
 exact (qM9 k F hF a0 a1 a2 a3 k) x0_1.2 ([x0_1.1] : List S28)
theorem i52B_ok (k : Nat) (F : Fns0) (hF : FnsOk0 F) : Pi52 (i52B k F) := fun a0 a1 a2 a3 x h => qIr k F hF a0 a1 a2 a3 (some x) h
theorem i52B_thr (k : Nat) (F : Fns0) (hF : FnsOk0 F) : Qi52 (i52B k F) := fun a0 a1 a2 a3 h => ⟨_, qIr k F hF a0 a1 a2 a3 none h⟩
def Xi6 (a0 : (List Nat)) (a1 : (List S33)) (a2 : Int) (a3 : Int) : Fx (Option (S28 × Int)) := ⟨Try.prog, cx, Try.f35, fun r => match r with | some r => .agg [.i r.1.f0, .str r.1.f1, q29 r.1.f2, .bool r.1.f3, .bool r.1.f4, w9 r.1.f5, w9 r.1.f6] | none => .top, 1, fun r => match r with | some r => (mkH [⟨[.str a0, w34 a1, .i r.2, .i a3], 4, false⟩]) | none => (mkH [⟨[.str a0, w34 a1, .i a2, .i a3], 4, false⟩]), cxTi, cxOrd, fun r => match r with | some _ => none | none => some (thrown, [0]), false⟩
def i6p0 : Pt := nav [0] (bodyAt Try.f35)
def i6p1 : Pt := nav [0, 0, 0, 0] i6p0
def i6p2 : Pt := nav [0, 0, 0, 0, 0] i6p1
def i6p3 : Pt := nav [0, 0] i6p2
def i6p4 : Pt := nav [0, 0, 0] i6p3
def i6p5 : Pt := nav [0, 0, 0] i6p4
def i6p6 : Pt := nav [0, 0, 0] i6p5
def i6p7 : Pt := nav [0, 0, 0, 0] i6p6
def i6p8 : Pt := nav [0, 0] i6p7
def qM5 (k : Nat) (F : Fns0)  (a0 : (List Nat)) (a1 : (List S33)) (a3 : Int) (ih : Int → (List S28) → Option (Option (S28 × Int))) : Int → (List S28) → Option (Option (S28 × Int)) :=
 fun (y5_0 : Int) (y5_1 : (List S28)) => jn (fun (z6 : Bool × Int × (List S28)) => (i12 k a0 a1 z6.2.1 a3).bind fun x1_1 => bT (F.i5 (0 : Int) a0 a1 x1_1.2 a3) fun x2_1 => (appS 104 z6.2.2 ([(⟨x2_1.1.f0, x2_1.1.f1, x2_1.1.f2, x2_1.1.f3, z6.1, x1_1.1, x2_1.1.f6⟩ : S28)] : List S28)).bind fun x3_4 => bT (i7 k ([44] : List Nat) a0 a1 x2_1.2 a3) fun x4_1 => if x4_1.1 then (ih x4_1.2 x3_4) else (some (some ((⟨(25 : Int), ([] : List Nat), ⟨(x3_4).length, (x3_4).flatMap e29⟩, false, false, ([] : List (List Nat)), ([] : List (List Nat))⟩ : S28), x4_1.2)))) (fun j6 => if (decide (0 < (y5_1.length : Int))) then ((g57 k a0 a1 y5_0).bind fun x0_17 => j6 (x0_17, y5_0, y5_1)) else (j6 (false, y5_0, y5_1)))
def i6_l5 (k : Nat) (F : Fns0)  (a0 : (List Nat)) (a1 : (List S33)) (a3 : Int) (n : Nat) : Int → (List S28) → Option (Option (S28 × Int)) := lp (fun _ _ => none) (qM5 k F a0 a1 a3) n
theorem i6_l5_ok (k : Nat) (F : Fns0) (hF : FnsOk0 F) (a0 : (List Nat)) (a1 : (List S33)) (a2 : Int) (a3 : Int)    : ∀ (n : Nat) (y5_0 : Int) (y5_1 : (List S28)), Ok (Xi6 a0 a1 a2 a3) i6p2 [(0, .ptr 0 4 0), (2, .ptr 1 7 0), (3, .ptr 2 7 0)] (mkH [⟨[.str a0, w34 a1, .i y5_0, .i a3], 4, false⟩, ⟨[.i 0, .str [], .nils, .bool false, .bool false, .nils, .nils], 0, false⟩, ⟨[.i 25, .str [], .own 3 (y5_1).length 7, .bool false, .bool false, .nils, .nils], 7, false⟩, ⟨(y5_1).flatMap e29, 0, false⟩]) (i6_l5 k F a0 a1 a3 n y5_0 y5_1) := by
 intro n
 induction n with
 | zero => intro y5_0 y5_1; exact ok_none
 | succ n ih =>
  intro y5_0 y5_1
  show Ok _ _ _ _ (qM5 k F a0 a1 a3 (i6_l5 k F a0 a1 a3 n) y5_0 y5_1)
  unfold qM5
  let Q1 : Blk := ⟨[.i 0, .str [], .nils, .bool false, .bool false, .nils, .nils], 0, false⟩
  refine oJ i6p3 (fun (z6 : Bool × Int × (List S28)) => [(0, .ptr 0 4 0), (2, .ptr 1 7 0), (3, .ptr 2 7 0), (4, .bool z6.1)]) (fun (z6 : Bool × Int × (List S28)) => (mkH [⟨[.str a0, w34 a1, .i z6.2.1, .i a3], 4, false⟩, Q1, ⟨[.i 25, .str [], .own 3 (z6.2.2).length 7, .bool false, .bool false, .nils, .nils], 7, false⟩, ⟨(z6.2.2).flatMap e29, 0, false⟩])) (fun z6 => ?_) (fun j6 hj6 => ?_)
  ·let E1 : Env := [(27, .ptr 0 4 0), (0, .ptr 0 4 0), (2, .ptr 1 7 0), (3, .ptr 2 7 0), (4, .bool z6.1)]
   let Q2 : Blk := ⟨[.i 25, .str [], .own 3 (z6.2.2).length 7, .bool false, .bool false, .nils, .nils], 7, false⟩
   let Q3 : Blk := ⟨(z6.2.2).flatMap e29, 0, false⟩
   refine oH 2 (atN 1 (ctl1 i6p3)) E1 (mkH [⟨[.str a0, w34 a1, .i z6.2.1, .i a3], 4, false⟩, Q1, Q2, Q3]) ?_
   refine oN (fun (x1_1 : Ri12) => w9 x1_1.1) (fun x1_1 => [⟨[.str a0, w34 a1, .i x1_1.2, .i a3], 4, false⟩, Q1, Q2, Q3]) (atN 2 (ctl1 i6p3)) 28 [0] [] [] [.ptr 0 4 0] (qAl k a0 a1 z6.2.1 a3) trivial (fun _ => trivial) fun x1_1 hx1_1 => ?_
   refine oR 5 (atN 1 (ctl1 i6p4)) ((29, .ptr 0 4 0) :: (5, w9 x1_1.1) :: (28, w9 x1_1.1) :: E1) ?_
   refine oX (fun (x2_1 : (S28 × Int)) => n29 x2_1.1) (fun x2_1 => [⟨[.str a0, w34 a1, .i x2_1.2, .i a3], 4, false⟩, Q1, Q2, Q3]) (atN 2 (ctl1 i6p4)) 30 [0] [] [] [0, 2] [0, 0, 0, 1] [.ptr 0 4 0, .i 0] (hF.i5_thr (0 : Int) a0 a1 x1_1.2 a3) (hF.i5_ok (0 : Int) a0 a1 x1_1.2 a3) trivial (fun _ => trivial) ⟨u29 _, trivial⟩ fun x2_1 hx2_1 => ?_
   let E3 : Env := [(0, .ptr 0 4 0), (2, .ptr 1 7 0), (3, .ptr 2 7 0), (6, .ptr 4 7 0)]
   let Q4 : Blk := ⟨[.str a0, w34 a1, .i x2_1.2, .i a3], 4, false⟩
   let Q5 : Blk := ⟨[.i x2_1.1.f0, .str x2_1.1.f1, q29 x2_1.1.f2, .bool x2_1.1.f3, .bool z6.1, w9 x1_1.1, w9 x2_1.1.f6], 7, false⟩
   refine oLH 13 i6p6 E3 (mkH [Q4, Q1, Q2, Q3, Q5]) ?_
   let Q6 : Blk := ⟨[.i x2_1.1.f0, .str x2_1.1.f1, q29 x2_1.1.f2, .bool x2_1.1.f3, .bool z6.1, w9 x1_1.1, w9 x2_1.1.f6], 0, false⟩
   refine oH 5 (atN 4 (ctl1 i6p6)) ((38, .slice 5 7 0 1 7) :: (37, .agg [.i x2_1.1.f0, .str x2_1.1.f1, q29 x2_1.1.f2, .bool x2_1.1.f3, .bool z6.1, w9 x1_1.1, w9 x2_1.1.f6]) :: (36, .own 3 (z6.2.2).length 7) :: (35, .ptr 2 7 2) :: E3) (mkH [Q4, Q1, Q2, Q3, Q5, Q6]) ?_
   refine oC (fun (x3_4 : (List S28)) => (.own 3 (x3_4).length 7, (mkH [Q4, Q1, Q2, ⟨(x3_4).flatMap e29, 0, false⟩, Q5, Q6]))) (atN 5 (ctl1 i6p6)) 39 (appH (sz := 7) qA7 rfl qAx [Q4, Q1, Q2, Q3, Q5, Q6] 3 104 z6.2.2 ([(⟨x2_1.1.f0, x2_1.1.f1, x2_1.1.f2, x2_1.1.f3, z6.1, x1_1.1, x2_1.1.f6⟩ : S28)] : List S28) rfl rfl (by kernel_rfl)) fun x3_4 hx3_4 => ?_
   let E5 : Env := [(0, .ptr 0 4 0), (2, .ptr 1 7 0), (3, .ptr 2 7 0)]
   let Q7 : Blk := ⟨[.i 25, .str [], .own 3 (x3_4).length 7, .bool false, .bool false, .nils, .nils], 7, false⟩
   let Q8 : Blk := ⟨(x3_4).flatMap e29, 0, false⟩
   refine oLH 5 i6p7 E5 (mkH [Q4, Q1, Q7, Q8, Q5, Q6]) ?_
   refine oR 2 (atN 1 (ctl1 i6p7)) ((41, .ptr 0 4 0) :: E5) ?_
   refine oX (fun (x4_1 : (Bool × Int)) => .bool x4_1.1) (fun x4_1 => [⟨[.str a0, w34 a1, .i x4_1.2, .i a3], 4, false⟩, Q1, Q7, Q8, Q5, Q6]) (atN 2 (ctl1 i6p7)) 42 [0] [] [] [2] [0, 0, 0, 1] [.ptr 0 4 0, .str [44]] (qAb k ([44] : List Nat) a0 a1 x2_1.2 a3) (qAi k ([44] : List Nat) a0 a1 x2_1.2 a3) trivial (fun _ => trivial) ⟨u29 _, trivial⟩ fun x4_1 hx4_1 => ?_
   refine oR 1 i6p8 ((42, .bool x4_1.1) :: (41, .ptr 0 4 0) :: E5) ?_
   refine oS 42 (fun hb => ?_) (fun hb => ?_)
   ·refine oL 5 i6p2 [(0, .ptr 0 4 0), (2, .ptr 1 7 0), (3, .ptr 2 7 0)] ?_
    refine qAc [⟨[.str a0, w34 a1, .i x4_1.2, .i a3], 4, false⟩, Q1, Q7, Q8] [Q5, Q6] (by kernel_rfl) rfl (by kernel_rfl) ⟨(by kernel_rfl), ⟨(by kernel_rfl), ⟨(by kernel_rfl), ⟨(qA3 _ (u29 _)), trivial⟩⟩⟩⟩ ?_
    exact ih x4_1.2 x3_4
   ·exact oQF 8 [⟨[.str a0, w34 a1, .i x4_1.2, .i a3], 4, false⟩, Q7, Q7, Q8, Q5, Q6] 1 [] [.agg [.i 25, .str [], .own 3 (x3_4).length 7, .bool false, .bool false, .nils, .nils]] (.agg [.i 25, .str [], w29 x3_4, .bool false, .bool false, .vec 0 1 [], .vec 0 1 []]) (.agg (.cs (.cs (qAs qA7 qAg rfl rfl rfl (.cs (.cs (.nil (.nil .ps))))))) .ps) trivial
  ·refine qDh (fun hb7 => ?_) (fun hb7 => ?_)
   ·refine qA9 (fun x0_17 hx0_17 => ?_)
    let E7 : Env := [(12, .bool (decide (0 < (y5_1.length : Int)))), (11, .bool (decide (0 < (y5_1.length : Int)))), (10, .i (y5_1.length : Int)), (9, .own 3 (y5_1).length 7), (8, .ptr 2 7 2), (0, .ptr 0 4 0), (2, .ptr 1 7 0), (3, .ptr 2 7 0)]
    let E8 : Env := [(24, .i y5_0), (23, .ptr 0 4 2), (22, .ptr 0 4 0), (21, .ptr 0 4 0), (20, w34 a1), (19, .ptr 0 4 1), (18, .ptr 0 4 0), (17, .ptr 0 4 0), (16, .str a0), (15, .ptr 0 4 0), (14, .ptr 0 4 0), (13, .ptr 0 4 0), (12, .bool true), (11, .bool true), (10, .i (y5_1.length : Int)), (9, .own 3 (y5_1).length 7), (8, .ptr 2 7 2), (0, .ptr 0 4 0), (2, .ptr 1 7 0), (3, .ptr 2 7 0)]
    let Q9 : Blk := ⟨[.str a0, w34 a1, .i y5_0, .i a3], 4, false⟩
    let Q10 : Blk := ⟨[.i 25, .str [], .own 3 (y5_1).length 7, .bool false, .bool false, .nils, .nils], 7, false⟩
    let Q11 : Blk := ⟨(y5_1).flatMap e29, 0, false⟩
    refine oD (H' := (mkH [Q9, Q1, Q10, Q11])) (nav [0] i6p2) ((4, .bool x0_17) :: (26, .bool x0_17) :: (25, .bool x0_17) :: E8) [(mkH [Q9, Q1, Q10, Q11])] ⟨[], [(0, 0, 0), (1, 0, 0), (3, 0, 0), (7, 0, 0), (15, 0, 0), (31, 0, 0), (63, 0, 0), (127, 0, 0), (255, 0, 0), (31, 0, 0), (543, 0, 0), (1567, 0, 0), (3615, 0, 0), (31, 0, 0), (8223, 0, 0), (24607, 0, 0), (57375, 0, 0), (131071, 0, 0), (262143, 0, 0), (524287, 0, 0)], 20, thrown, [], H0⟩ (oDr 5 5 E7 (qA6 (eE := [(12, .bool true), (11, .bool true), (10, .i (y5_1.length : Int)), (9, .own 3 (y5_1).length 7), (8, .ptr 2 7 2), (0, .ptr 0 4 0), (2, .ptr 1 7 0), (3, .ptr 2 7 0)]) (congrArg (fun z : Bool => ([(12, .bool z), (11, .bool z), (10, .i (y5_1.length : Int)), (9, .own 3 (y5_1).length 7), (8, .ptr 2 7 2), (0, .ptr 0 4 0), (2, .ptr 1 7 0), (3, .ptr 2 7 0)] : Env)) hb7) (oDr 12 17 E8 (qAu (l' := (opsAt i6p2).toList.drop 18) (eE := ((25, .bool x0_17) :: E8)) (hs := [(mkH [Q9, Q1, Q10, Q11])]) (fi := 57) (args := [.str a0, w34 a1, .i y5_0]) (v := .bool x0_17) (by kernel_rfl) (by kernel_rfl) (by kernel_rfl) (g57_ok k a0 a1 y5_0 x0_17 hx0_17) (by kernel_rfl) (oDr 2 20 ((4, .bool x0_17) :: (26, .bool x0_17) :: (25, .bool x0_17) :: E8) .nil))))) ?_
    refine oL 1 i6p3 [(0, .ptr 0 4 0), (2, .ptr 1 7 0), (3, .ptr 2 7 0), (4, .bool x0_17)] ?_
    exact hj6 (x0_17, y5_0, y5_1)
   ·let E7 : Env := [(12, .bool (decide (0 < (y5_1.length : Int)))), (11, .bool (decide (0 < (y5_1.length : Int)))), (10, .i (y5_1.length : Int)), (9, .own 3 (y5_1).length 7), (8, .ptr 2 7 2), (0, .ptr 0 4 0), (2, .ptr 1 7 0), (3, .ptr 2 7 0)]
    let E10 : Env := [(4, .bool false), (26, .bool false), (25, .tuple []), (24, .tuple []), (23, .tuple []), (22, .tuple []), (21, .tuple []), (20, .tuple []), (19, .tuple []), (18, .tuple []), (17, .tuple []), (16, .tuple []), (15, .tuple []), (14, .tuple []), (13, .tuple []), (12, .bool false), (11, .bool false), (10, .i (y5_1.length : Int)), (9, .own 3 (y5_1).length 7), (8, .ptr 2 7 2), (0, .ptr 0 4 0), (2, .ptr 1 7 0), (3, .ptr 2 7 0)]
    let Q12 : Blk := ⟨[.str a0, w34 a1, .i y5_0, .i a3], 4, false⟩
    let Q13 : Blk := ⟨[.i 25, .str [], .own 3 (y5_1).length 7, .bool false, .bool false, .nils, .nils], 7, false⟩
    let Q14 : Blk := ⟨(y5_1).flatMap e29, 0, false⟩
    refine oD (H' := (mkH [Q12, Q1, Q13, Q14])) (nav [0] i6p2) E10 [(mkH [Q12, Q1, Q13, Q14])] ⟨[], [(0, 0, 0), (1, 0, 0), (3, 0, 0), (7, 0, 0), (15, 0, 0), (31, 0, 0), (63, 0, 0), (127, 0, 0), (255, 0, 0), (31, 0, 0), (543, 0, 0), (1567, 0, 0), (3615, 0, 0), (31, 0, 0), (8223, 0, 0), (24607, 0, 0), (57375, 0, 0), (131071, 0, 0), (262143, 0, 0), (524287, 0, 0)], 20, thrown, [], H0⟩ (oDr 5 5 E7 (qA6 (eE := [(12, .bool false), (11, .bool false), (10, .i (y5_1.length : Int)), (9, .own 3 (y5_1).length 7), (8, .ptr 2 7 2), (0, .ptr 0 4 0), (2, .ptr 1 7 0), (3, .ptr 2 7 0)]) (congrArg (fun z : Bool => ([(12, .bool z), (11, .bool z), (10, .i (y5_1.length : Int)), (9, .own 3 (y5_1).length 7), (8, .ptr 2 7 2), (0, .ptr 0 4 0), (2, .ptr 1 7 0), (3, .ptr 2 7 0)] : Env)) hb7) (oDh 15 20 E10 (mkH [Q12, Q1, Q13, Q14]) [(mkH [Q12, Q1, Q13, Q14])] .nil))) ?_
    refine oL 1 i6p3 [(0, .ptr 0 4 0), (2, .ptr 1 7 0), (3, .ptr 2 7 0), (4, .bool false)] ?_
    exact hj6 (false, y5_0, y5_1)
def i6B (k : Nat) (F : Fns0) (a0 : (List Nat)) (a1 : (List S33)) (a2 : Int) (a3 : Int) : Option (Option (S28 × Int)) :=
 i6_l5 k F a0 a1 a3 k a2 ([] : List S28)
theorem qM6 (k : Nat) (F : Fns0) (hF : FnsOk0 F) (a0 : (List Nat)) (a1 : (List S33)) (a2 : Int) (a3 : Int) (r : (Option (S28 × Int))) (h : i6B k F a0 a1 a2 a3 = some r) : CallT Try.prog 35 [.ptr 0 4 0] (mkH [⟨[.str a0, w34 a1, .i a2, .i a3], 4, false⟩]) ((Xi6 a0 a1 a2 a3).thr r) ((Xi6 a0 a1 a2 a3).enc r) ((Xi6 a0 a1 a2 a3).fin r) := by
 refine qA2 (Xi6 a0 a1 a2 a3) Try.func35 (by kernel_rfl) (by kernel_rfl) rfl (t := i6B k F a0 a1 a2 a3) ?_ h
 unfold i6B
 refine qA0 (eE := [(0, .ptr 0 4 0)]) (by kernel_rfl) ?_
 let Q1 : Blk := ⟨[.str a0, w34 a1, .i a2, .i a3], 4, false⟩
 let Q2 : Blk := ⟨[.i 0, .str [], .nils, .bool false, .bool false, .nils, .nils], 0, false⟩
 let Q3 : Blk := ⟨[.i 25, .str [], .nils, .bool false, .bool false, .nils, .nils], 7, false⟩
 refine oH 14 i6p2 [(3, .ptr 2 7 0), (7, .agg [.i 25, .str [], .nils, .bool false, .bool false, .nils, .nils]), (2, .ptr 1 7 0), (0, .ptr 0 4 0)] (mkH [Q1, Q2, Q3]) ?_
 refine qF9 [Q1, Q2, Q3] (by kernel_rfl) ?_
 let Q4 : Blk := ⟨(([] : List S28)).flatMap e29, 0, false⟩
 refine oHp (mkH [Q1, Q2, Q3, Q4]) ?_
 refine qCt [Q1, Q2, Q3, Q4] 2 7 [.i 25, .str [], .nils, .bool false, .bool false, .nils, .nils] [.i 25, .str [], .own 3 (([] : List S28)).length 7, .bool false, .bool false, .nils, .nils] (by kernel_rfl) rfl (.cons (.cons (.none (.refl)))) ?_
 refine oHp (mkH [Q1, Q2, ⟨[.i 25, .str [], .own 3 (([] : List S28)).length 7, .bool false, .bool false, .nils, .nils], 7, false⟩, Q4]) ?_
 refine oK [0, 2, 3] [(0, .ptr 0 4 0), (2, .ptr 1 7 0), (3, .ptr 2 7 0)] ?_
 exact (i6_l5_ok k F hF a0 a1 a2 a3 k) a2 ([] : List S28)
theorem i6B_ok (k : Nat) (F : Fns0) (hF : FnsOk0 F) : Pi6 (i6B k F) := fun a0 a1 a2 a3 x h => qM6 k F hF a0 a1 a2 a3 (some x) h
theorem i6B_thr (k : Nat) (F : Fns0) (hF : FnsOk0 F) : Qi6 (i6B k F) := fun a0 a1 a2 a3 h => ⟨_, qM6 k F hF a0 a1 a2 a3 none h⟩
def Xi8 (a0 : (List Nat)) (a1 : (List S33)) (a2 : Int) (a3 : Int) : Fx (Option Ri8) := ⟨Try.prog, cx, Try.f48, fun r => match r with | some r => .tuple [.agg [.i r.1.f0, .str r.1.f1, q29 r.1.f2, .bool r.1.f3, .bool r.1.f4, w9 r.1.f5, w9 r.1.f6], .i r.2.1] | none => .top, 1, fun r => match r with | some r => (mkH [⟨[.str a0, w34 a1, .i r.2.2, .i a3], 4, false⟩]) | none => (mkH [⟨[.str a0, w34 a1, .i a2, .i a3], 4, false⟩]), cxTi, cxOrd, fun r => match r with | some _ => none | none => some (thrown, [0]), false⟩
def i8p0 : Pt := nav [0] (bodyAt Try.f48)
def i8p1 : Pt := nav [0, 0, 0] i8p0
def i8p2 : Pt := nav [0, 0, 0, 0] i8p1
def i8p3 : Pt := nav [0, 0] i8p2
def i8p4 : Pt := nav [1, 0] i8p3
def i8p5 : Pt := nav [2, 0, 0] i8p3
def i8p6 : Pt := nav [0, 0, 0] i8p4
def i8p7 : Pt := nav [0, 0, 0] i8p5
def i8p8 : Pt := nav [0, 0, 0] i8p6
def i8B (k : Nat) (F : Fns0) (a0 : (List Nat)) (a1 : (List S33)) (a2 : Int) (a3 : Int) : Option (Option Ri8) :=
 (i9 k a0 a1 a2 a3).bind fun x0_1 => (i10 k x0_1.f1 a0 a1 a2 a3).bind fun x1_3 => jn (fun (z7 : Bool) => if z7 then (bT (i11 k a0 a1 a2 a3) fun x2_1 => bT (F.i8 a0 a1 x2_1 a3) fun x3_1 => (g65 k x0_1.f1).bind fun x4_7 => some (some ((⟨(13 : Int), x0_1.f1, ⟨(([(⟨x3_1.1.f0, x3_1.1.f1, x3_1.1.f2, x3_1.1.f3, x3_1.1.f4, x3_1.1.f5, x3_1.1.f6⟩ : S28)] : List S28)).length, (([(⟨x3_1.1.f0, x3_1.1.f1, x3_1.1.f2, x3_1.1.f3, x3_1.1.f4, x3_1.1.f5, x3_1.1.f6⟩ : S28)] : List S28)).flatMap e29⟩, false, false, ([] : List (List Nat)), ([] : List (List Nat))⟩ : S28), x4_7, x3_1.2.2))) else (bT (F.i13 a0 a1 a2 a3) fun x5_1 => bT (F.i14 x5_1.1.f0 x5_1.1.f1 x5_1.1.f2 x5_1.1.f3 x5_1.1.f4 x5_1.1.f5 x5_1.1.f6 x5_1.2.1 a0 a1 x5_1.2.2 a3) fun x6_3 => some (some ((⟨x6_3.1.f0, x6_3.1.f1, x6_3.1.f2, x6_3.1.f3, x6_3.1.f4, x6_3.1.f5, x6_3.1.f6⟩ : S28), (11 : Int), x6_3.2)))) (fun j7 => if x1_3 then ((g65 k x0_1.f1).bind fun x1_7 => j7 (decide (0 < x1_7))) else (j7 false))
theorem qM4 (k : Nat) (F : Fns0) (hF : FnsOk0 F) (a0 : (List Nat)) (a1 : (List S33)) (a2 : Int) (a3 : Int) (r : (Option Ri8)) (h : i8B k F a0 a1 a2 a3 = some r) : CallT Try.prog 48 [.ptr 0 4 0] (mkH [⟨[.str a0, w34 a1, .i a2, .i a3], 4, false⟩]) ((Xi8 a0 a1 a2 a3).thr r) ((Xi8 a0 a1 a2 a3).enc r) ((Xi8 a0 a1 a2 a3).fin r) := by
 refine qA2 (Xi8 a0 a1 a2 a3) Try.func48 (by kernel_rfl) (by kernel_rfl) rfl (t := i8B k F a0 a1 a2 a3) ?_ h
 unfold i8B
 refine qA0 (eE := [(0, .ptr 0 4 0)]) (by kernel_rfl) ?_
 let Q1 : Blk := ⟨[.str a0, w34 a1, .i a2, .i a3], 4, false⟩
 let Q2 : Blk := ⟨[.i 0, .str [], .nils, .bool false, .bool false, .nils, .nils], 0, false⟩
 refine oH 8 (atN 1 (ctl1 i8p1)) [(9, .ptr 0 4 0), (3, .i 0), (2, .ptr 1 7 0), (0, .ptr 0 4 0)] (mkH [Q1, Q2]) ?_
 refine oN (fun (x0_1 : S33) => n34 x0_1) (fun x0_1 => [Q1, Q2]) (atN 2 (ctl1 i8p1)) 10 [0] [] [] [.ptr 0 4 0] (qKh k a0 a1 a2 a3) trivial (fun _ => trivial) fun x0_1 hx0_1 => ?_
 let E1 : Env := [(13, .str x0_1.f1), (12, .ptr 2 3 1), (11, .ptr 0 4 0), (4, .ptr 2 3 0), (10, n34 x0_1), (9, .ptr 0 4 0), (3, .i 0), (2, .ptr 1 7 0), (0, .ptr 0 4 0)]
 refine oH 9 (atN 3 (ctl1 i8p2)) E1 (mkH [Q1, Q2, ⟨e34 x0_1, 3, false⟩]) ?_
 refine oN (fun (x1_3 : Bool) => .bool x1_3) (fun x1_3 => [Q1, Q2, ⟨e34 x0_1, 3, false⟩]) (atN 4 (ctl1 i8p2)) 14 [0] [] [] [.ptr 0 4 0, .str x0_1.f1] (qGg k x0_1.f1 a0 a1 a2 a3) trivial (fun _ => trivial) fun x1_3 hx1_3 => ?_
 refine oR 1 (atN 5 (ctl1 i8p2)) ((15, .bool x1_3) :: (14, .bool x1_3) :: E1) ?_
 refine oJ i8p3 (fun (z7 : Bool) => [(0, .ptr 0 4 0), (2, .ptr 1 7 0), (4, .ptr 2 3 0), (20, .bool z7)]) (fun (z7 : Bool) => (mkH [Q1, Q2, ⟨e34 x0_1, 3, false⟩])) (fun z7 => ?_) (fun j7 hj7 => ?_)
 ·refine oS 20 (fun hb => ?_) (fun hb => ?_)
  ·let E2 : Env := [(21, .ptr 0 4 0), (20, .bool true), (0, .ptr 0 4 0), (2, .ptr 1 7 0), (4, .ptr 2 3 0), (20, .bool z7)]
   refine oH 4 (atN 1 (ctl1 i8p4)) E2 (mkH [Q1, Q2, ⟨e34 x0_1, 3, false⟩]) ?_
   refine oX (fun (x2_1 : Int) => .tuple []) (fun x2_1 => [⟨[.str a0, w34 a1, .i x2_1, .i a3], 4, false⟩, Q2, ⟨e34 x0_1, 3, false⟩]) (atN 2 (ctl1 i8p4)) 22 [0] [] [] [] [] [.ptr 0 4 0] (qD6 k a0 a1 a2 a3) (qEo k a0 a1 a2 a3) trivial (fun _ => trivial) trivial fun x2_1 hx2_1 => ?_
   refine oR 4 (atN 1 (ctl1 i8p6)) ((24, .ptr 0 4 0) :: (22, .tuple []) :: E2) ?_
   refine oX (fun (x3_1 : Ri8) => .tuple [n29 x3_1.1, .i x3_1.2.1]) (fun x3_1 => [⟨[.str a0, w34 a1, .i x3_1.2.2, .i a3], 4, false⟩, Q2, ⟨e34 x0_1, 3, false⟩]) (atN 2 (ctl1 i8p6)) 25 [0] [] [] [0] [] [.ptr 0 4 0] (hF.i8_thr a0 a1 x2_1 a3) (hF.i8_ok a0 a1 x2_1 a3) trivial (fun _ => trivial) trivial fun x3_1 hx3_1 => ?_
   let Q3 : Blk := ⟨[.str a0, w34 a1, .i x3_1.2.2, .i a3], 4, false⟩
   let K1 : List Blk := [Q3, Q2, ⟨e34 x0_1, 3, false⟩, ⟨e29 x3_1.1, 7, false⟩]
   refine oLH 8 i8p8 [(2, .ptr 1 7 0), (4, .ptr 2 3 0), (5, .ptr 3 7 0)] (mkH K1) ?_
   refine qA9 (fun x4_7 hx4_7 => ?_)
   let E5 : Env := [(34, .str x0_1.f1), (33, .ptr 2 3 1), (32, .agg [.i 13, .str x0_1.f1, w29 ([x3_1.1] : List S28), .bool false, .bool false, .nils, .nils]), (31, w29 ([x3_1.1] : List S28)), (30, n29 x3_1.1), (29, .str x0_1.f1), (28, .ptr 2 3 1), (2, .ptr 1 7 0), (4, .ptr 2 3 0), (5, .ptr 3 7 0)]
   let K2 : List Blk := [Q3, ⟨[.i 13, .str x0_1.f1, w29 ([x3_1.1] : List S28), .bool false, .bool false, .nils, .nils], 7, false⟩, ⟨e34 x0_1, 3, false⟩, ⟨e29 x3_1.1, 7, false⟩]
   refine oD (H' := (mkH K2)) (nav [0] i8p8) ((3, .i x4_7) :: (35, .i x4_7) :: E5) [(mkH K1), (mkH K2)] ⟨[31], [(0, 0, 0), (1, 0, 1), (0, 0, 1), (4, 0, 0), (15, 0, 0), (0, 0, 0), (32, 0, 0), (96, 0, 0), (255, 0, 0), (511, 0, 0)], 10, thrown, [], H0⟩ (oDr 7 7 E5 (qAu (l' := (opsAt i8p8).toList.drop 8) (eE := ((35, .i x4_7) :: E5)) (hs := [(mkH K1)]) (fi := 65) (args := [.str x0_1.f1]) (v := .i x4_7) (by kernel_rfl) (by kernel_rfl) (by kernel_rfl) (g65_ok k x0_1.f1 x4_7 hx4_7) (by kernel_rfl) (oDh 2 10 ((3, .i x4_7) :: (35, .i x4_7) :: E5) (mkH K2) [(mkH K2)] .nil))) ?_
   exact oQF 1 K2 1 [] [.agg [.i 13, .str x0_1.f1, w29 ([x3_1.1] : List S28), .bool false, .bool false, .nils, .nils], .i x4_7] (.tuple [.agg [.i 13, .str x0_1.f1, w29 ([x3_1.1] : List S28), .bool false, .bool false, .vec 0 1 [], .vec 0 1 []], .i x4_7]) (.tuple (.agg (.cs (.cs (.cs (.cs (.cs (.nil (.nil .ps))))))) .ps) .ps) trivial
  ·refine oH 5 (atN 1 (ctl1 i8p5)) [(37, .ptr 0 4 0), (20, .bool false), (0, .ptr 0 4 0), (2, .ptr 1 7 0), (4, .ptr 2 3 0), (20, .bool z7)] (mkH [Q1, Q2, ⟨e34 x0_1, 3, false⟩]) ?_
   refine oX (fun (x5_1 : Ri13) => .tuple [n29 x5_1.1, .bool x5_1.2.1]) (fun x5_1 => [⟨[.str a0, w34 a1, .i x5_1.2.2, .i a3], 4, false⟩, Q2, ⟨e34 x0_1, 3, false⟩]) (atN 2 (ctl1 i8p5)) 38 [0] [] [] [0] [] [.ptr 0 4 0] (hF.i13_thr a0 a1 a2 a3) (hF.i13_ok a0 a1 a2 a3) trivial (fun _ => trivial) trivial fun x5_1 hx5_1 => ?_
   let E8 : Env := [(0, .ptr 0 4 0), (2, .ptr 1 7 0), (7, .ptr 3 7 0), (8, .bool x5_1.2.1)]
   refine oLH 8 i8p7 E8 (mkH [⟨[.str a0, w34 a1, .i x5_1.2.2, .i a3], 4, false⟩, Q2, ⟨e34 x0_1, 3, false⟩, ⟨e29 x5_1.1, 7, false⟩]) ?_
   refine oR 4 (atN 3 (ctl1 i8p7)) ((43, .bool x5_1.2.1) :: (42, n29 x5_1.1) :: (41, .ptr 0 4 0) :: E8) ?_
   refine oX (fun (x6_3 : (S28 × Int)) => n29 x6_3.1) (fun x6_3 => [⟨[.str a0, w34 a1, .i x6_3.2, .i a3], 4, false⟩, Q2, ⟨e34 x0_1, 3, false⟩, ⟨e29 x5_1.1, 7, false⟩]) (atN 4 (ctl1 i8p7)) 44 [0] [] [] [0] [] [.ptr 0 4 0, n29 x5_1.1, .bool x5_1.2.1] (hF.i14_thr x5_1.1.f0 x5_1.1.f1 x5_1.1.f2 x5_1.1.f3 x5_1.1.f4 x5_1.1.f5 x5_1.1.f6 x5_1.2.1 a0 a1 x5_1.2.2 a3) (hF.i14_ok x5_1.1.f0 x5_1.1.f1 x5_1.1.f2 x5_1.1.f3 x5_1.1.f4 x5_1.1.f5 x5_1.1.f6 x5_1.2.1 a0 a1 x5_1.2.2 a3) trivial (fun _ => trivial) trivial fun x6_3 hx6_3 => ?_
   exact oQF 4 [⟨[.str a0, w34 a1, .i x6_3.2, .i a3], 4, false⟩, ⟨e29 x6_3.1, 7, false⟩, ⟨e34 x0_1, 3, false⟩, ⟨e29 x5_1.1, 7, false⟩] 1 [] [n29 x6_3.1, .i 11] (.tuple [n29 x6_3.1, .i 11]) .ps trivial
 ·refine oS 15 (fun hb => ?_) (fun hb => ?_)
  ·refine oH 2 (atN 7 (ctl1 i8p2)) ((17, .str x0_1.f1) :: (16, .ptr 2 3 1) :: (15, .bool true) :: (15, .bool x1_3) :: (14, .bool x1_3) :: E1) (mkH [Q1, Q2, ⟨e34 x0_1, 3, false⟩]) ?_
   refine oA (fun (x1_7 : Int) => .i x1_7) (atN 8 (ctl1 i8p2)) 18 [.str x0_1.f1] (g65_ok k x0_1.f1) fun x1_7 hx1_7 => ?_
   refine oL 3 i8p3 [(0, .ptr 0 4 0), (2, .ptr 1 7 0), (4, .ptr 2 3 0), (20, .bool (decide (0 < x1_7)))] ?_
   exact hj7 (decide (0 < x1_7))
  ·refine oLH 6 i8p3 [(0, .ptr 0 4 0), (2, .ptr 1 7 0), (4, .ptr 2 3 0), (20, .bool false)] (mkH [Q1, Q2, ⟨e34 x0_1, 3, false⟩]) ?_
   exact hj7 false
theorem i8B_ok (k : Nat) (F : Fns0) (hF : FnsOk0 F) : Pi8 (i8B k F) := fun a0 a1 a2 a3 x h => qM4 k F hF a0 a1 a2 a3 (some x) h
theorem i8B_thr (k : Nat) (F : Fns0) (hF : FnsOk0 F) : Qi8 (i8B k F) := fun a0 a1 a2 a3 h => ⟨_, qM4 k F hF a0 a1 a2 a3 none h⟩
def par0 (n : Nat) : Fns0 := Nat.rec (motive := fun _ => Fns0) ⟨fun _ _ _ _ _ => none, fun _ _ _ _ => none, fun _ _ _ _ => none, fun _ _ _ _ => none, fun _ _ _ _ _ _ _ _ _ _ _ _ => none, fun _ _ _ _ => none, fun _ _ _ _ _ _ _ _ _ _ _ _ => none, fun _ _ _ _ => none, fun _ _ _ _ _ _ _ _ _ _ _ _ => none, fun _ _ _ _ _ _ _ _ _ _ _ _ => none, fun _ _ _ _ => none, fun _ _ _ _ => none, fun _ _ _ _ _ _ _ _ _ _ _ => none, fun _ _ _ _ => none, fun _ _ _ _ _ _ _ _ _ _ _ => none, fun _ _ _ _ => none, fun _ _ _ _ => none, fun _ _ _ _ => none, fun _ _ _ _ _ _ _ _ _ _ _ => none, fun _ _ _ _ _ _ _ _ _ _ _ => none, fun _ _ _ _ => none, fun _ _ _ _ _ => none, fun _ _ _ _ _ => none, fun _ _ _ _ _ => none, fun _ _ _ _ _ => none, fun _ _ _ _ => none, fun _ _ _ _ => none, fun _ _ _ _ => none, fun _ _ _ _ _ _ _ _ _ _ _ _ _ _ _ _ _ _ _ => none, fun _ _ _ _ _ => none, fun _ _ _ _ => none, fun _ _ _ _ => none, fun _ _ _ _ => none, fun _ _ _ _ => none⟩ (fun k F => ⟨i5B k F, i6B k F, i8B k F, i13B k F, i14B k F, i17B k F, i18B k F, i19B k F, i20B k F, i21B k F, i24B k F, i25B k F, i26B k F, i29B k F, i30B k F, i31B k F, i32B k F, i34B k F, i36B k F, i37B k F, i38B k F, i40B k F, i41B k F, i42B k F, i43B k F, i44B k F, i45B k F, i46B k F, i47B k F, i48B k F, i49B k F, i50B k F, i51B k F, i52B k F⟩) n
theorem qA : ∀ k, FnsOk0 (par0 k)
 | 0 => ⟨(fun _ _ _ _ _ _ h => nomatch h), (fun _ _ _ _ _ h => nomatch h), (fun _ _ _ _ _ h => nomatch h), (fun _ _ _ _ h => nomatch h), (fun _ _ _ _ _ h => nomatch h), (fun _ _ _ _ h => nomatch h), (fun _ _ _ _ _ h => nomatch h), (fun _ _ _ _ h => nomatch h), (fun _ _ _ _ _ _ _ _ _ _ _ _ _ h => nomatch h), (fun _ _ _ _ _ _ _ _ _ _ _ _ h => nomatch h), (fun _ _ _ _ _ h => nomatch h), (fun _ _ _ _ h => nomatch h), (fun _ _ _ _ _ _ _ _ _ _ _ _ _ h => nomatch h), (fun _ _ _ _ _ _ _ _ _ _ _ _ h => nomatch h), (fun _ _ _ _ _ h => nomatch h), (fun _ _ _ _ h => nomatch h), (fun _ _ _ _ _ _ _ _ _ _ _ _ _ h => nomatch h), (fun _ _ _ _ _ _ _ _ _ _ _ _ h => nomatch h), (fun _ _ _ _ _ _ _ _ _ _ _ _ _ h => nomatch h), (fun _ _ _ _ _ _ _ _ _ _ _ _ h => nomatch h), (fun _ _ _ _ _ h => nomatch h), (fun _ _ _ _ h => nomatch h), (fun _ _ _ _ _ h => nomatch h), (fun _ _ _ _ h => nomatch h), (fun _ _ _ _ _ _ _ _ _ _ _ _ h => nomatch h), (fun _ _ _ _ _ _ _ _ _ _ _ h => nomatch h), (fun _ _ _ _ _ h => nomatch h), (fun _ _ _ _ h => nomatch h), (fun _ _ _ _ _ _ _ _ _ _ _ _ h => nomatch h), (fun _ _ _ _ _ _ _ _ _ _ _ h => nomatch h), (fun _ _ _ _ _ h => nomatch h), (fun _ _ _ _ h => nomatch h), (fun _ _ _ _ _ h => nomatch h), (fun _ _ _ _ h => nomatch h), (fun _ _ _ _ _ h => nomatch h), (fun _ _ _ _ h => nomatch h), (fun _ _ _ _ _ _ _ _ _ _ _ _ h => nomatch h), (fun _ _ _ _ _ _ _ _ _ _ _ h => nomatch h), (fun _ _ _ _ _ _ _ _ _ _ _ _ h => nomatch h), (fun _ _ _ _ _ _ _ _ _ _ _ h => nomatch h), (fun _ _ _ _ _ h => nomatch h), (fun _ _ _ _ h => nomatch h), (fun _ _ _ _ _ _ h => nomatch h), (fun _ _ _ _ _ h => nomatch h), (fun _ _ _ _ _ _ h => nomatch h), (fun _ _ _ _ _ h => nomatch h), (fun _ _ _ _ _ _ h => nomatch h), (fun _ _ _ _ _ h => nomatch h), (fun _ _ _ _ _ _ h => nomatch h), (fun _ _ _ _ _ h => nomatch h), (fun _ _ _ _ _ h => nomatch h), (fun _ _ _ _ h => nomatch h), (fun _ _ _ _ _ h => nomatch h), (fun _ _ _ _ h => nomatch h), (fun _ _ _ _ _ h => nomatch h), (fun _ _ _ _ h => nomatch h), (fun _ _ _ _ _ _ _ _ _ _ _ _ _ _ _ _ _ _ _ _ h => nomatch h), (fun _ _ _ _ _ _ _ _ _ _ _ _ _ _ _ _ _ _ _ h => nomatch h), (fun _ _ _ _ _ _ h => nomatch h), (fun _ _ _ _ _ h => nomatch h), (fun _ _ _ _ _ h => nomatch h), (fun _ _ _ _ h => nomatch h), (fun _ _ _ _ _ h => nomatch h), (fun _ _ _ _ h => nomatch h), (fun _ _ _ _ _ h => nomatch h), (fun _ _ _ _ h => nomatch h), (fun _ _ _ _ _ h => nomatch h), (fun _ _ _ _ h => nomatch h)⟩
 | k + 1 => ⟨i5B_ok k (par0 k) (qA k), i5B_thr k (par0 k) (qA k), i6B_ok k (par0 k) (qA k), i6B_thr k (par0 k) (qA k), i8B_ok k (par0 k) (qA k), i8B_thr k (par0 k) (qA k), i13B_ok k (par0 k) (qA k), i13B_thr k (par0 k) (qA k), i14B_ok k (par0 k) (qA k), i14B_thr k (par0 k) (qA k), i17B_ok k (par0 k) (qA k), i17B_thr k (par0 k) (qA k), i18B_ok k (par0 k) (qA k), i18B_thr k (par0 k) (qA k), i19B_ok k (par0 k) (qA k), i19B_thr k (par0 k) (qA k), i20B_ok k (par0 k) (qA k), i20B_thr k (par0 k) (qA k), i21B_ok k (par0 k) (qA k), i21B_thr k (par0 k) (qA k), i24B_ok k (par0 k) (qA k), i24B_thr k (par0 k) (qA k), i25B_ok k (par0 k) (qA k), i25B_thr k (par0 k) (qA k), i26B_ok k (par0 k) (qA k), i26B_thr k (par0 k) (qA k), i29B_ok k (par0 k) (qA k), i29B_thr k (par0 k) (qA k), i30B_ok k (par0 k) (qA k), i30B_thr k (par0 k) (qA k), i31B_ok k (par0 k) (qA k), i31B_thr k (par0 k) (qA k), i32B_ok k (par0 k) (qA k), i32B_thr k (par0 k) (qA k), i34B_ok k (par0 k) (qA k), i34B_thr k (par0 k) (qA k), i36B_ok k (par0 k) (qA k), i36B_thr k (par0 k) (qA k), i37B_ok k (par0 k) (qA k), i37B_thr k (par0 k) (qA k), i38B_ok k (par0 k) (qA k), i38B_thr k (par0 k) (qA k), i40B_ok k (par0 k) (qA k), i40B_thr k (par0 k) (qA k), i41B_ok k (par0 k) (qA k), i41B_thr k (par0 k) (qA k), i42B_ok k (par0 k) (qA k), i42B_thr k (par0 k) (qA k), i43B_ok k (par0 k) (qA k), i43B_thr k (par0 k) (qA k), i44B_ok k (par0 k) (qA k), i44B_thr k (par0 k) (qA k), i45B_ok k (par0 k) (qA k), i45B_thr k (par0 k) (qA k), i46B_ok k (par0 k) (qA k), i46B_thr k (par0 k) (qA k), i47B_ok k (par0 k) (qA k), i47B_thr k (par0 k) (qA k), i48B_ok k (par0 k) (qA k), i48B_thr k (par0 k) (qA k), i49B_ok k (par0 k) (qA k), i49B_thr k (par0 k) (qA k), i50B_ok k (par0 k) (qA k), i50B_thr k (par0 k) (qA k), i51B_ok k (par0 k) (qA k), i51B_thr k (par0 k) (qA k), i52B_ok k (par0 k) (qA k), i52B_thr k (par0 k) (qA k)⟩
def i5 (k : Nat) : Ti5 := (par0 k).i5
theorem i5_ok (k : Nat) : Pi5 (i5 k) := (qA k).i5_ok
theorem i5_thr (k : Nat) : Qi5 (i5 k) := (qA k).i5_thr
def i6 (k : Nat) : Ti6 := (par0 k).i6
theorem i6_ok (k : Nat) : Pi6 (i6 k) := (qA k).i6_ok
theorem i6_thr (k : Nat) : Qi6 (i6 k) := (qA k).i6_thr
def i8 (k : Nat) : Ti8 := (par0 k).i8
theorem i8_ok (k : Nat) : Pi8 (i8 k) := (qA k).i8_ok
theorem i8_thr (k : Nat) : Qi8 (i8 k) := (qA k).i8_thr
def i13 (k : Nat) : Ti13 := (par0 k).i13
theorem i13_ok (k : Nat) : Pi13 (i13 k) := (qA k).i13_ok
theorem i13_thr (k : Nat) : Qi13 (i13 k) := (qA k).i13_thr
def i14 (k : Nat) : Ti14 := (par0 k).i14
theorem i14_ok (k : Nat) : Pi14 (i14 k) := (qA k).i14_ok
theorem i14_thr (k : Nat) : Qi14 (i14 k) := (qA k).i14_thr
def i17 (k : Nat) : Ti17 := (par0 k).i17
theorem i17_ok (k : Nat) : Pi17 (i17 k) := (qA k).i17_ok
theorem i17_thr (k : Nat) : Qi17 (i17 k) := (qA k).i17_thr
def i18 (k : Nat) : Ti18 := (par0 k).i18
theorem i18_ok (k : Nat) : Pi18 (i18 k) := (qA k).i18_ok
theorem i18_thr (k : Nat) : Qi18 (i18 k) := (qA k).i18_thr
def i19 (k : Nat) : Ti19 := (par0 k).i19
theorem i19_ok (k : Nat) : Pi19 (i19 k) := (qA k).i19_ok
theorem i19_thr (k : Nat) : Qi19 (i19 k) := (qA k).i19_thr
def i20 (k : Nat) : Ti20 := (par0 k).i20
theorem i20_ok (k : Nat) : Pi20 (i20 k) := (qA k).i20_ok
theorem i20_thr (k : Nat) : Qi20 (i20 k) := (qA k).i20_thr
def i21 (k : Nat) : Ti21 := (par0 k).i21
theorem i21_ok (k : Nat) : Pi21 (i21 k) := (qA k).i21_ok
theorem i21_thr (k : Nat) : Qi21 (i21 k) := (qA k).i21_thr
def i24 (k : Nat) : Ti24 := (par0 k).i24
theorem i24_ok (k : Nat) : Pi24 (i24 k) := (qA k).i24_ok
theorem i24_thr (k : Nat) : Qi24 (i24 k) := (qA k).i24_thr
def i25 (k : Nat) : Ti25 := (par0 k).i25
theorem i25_ok (k : Nat) : Pi25 (i25 k) := (qA k).i25_ok
theorem i25_thr (k : Nat) : Qi25 (i25 k) := (qA k).i25_thr
def i26 (k : Nat) : Ti26 := (par0 k).i26
theorem i26_ok (k : Nat) : Pi26 (i26 k) := (qA k).i26_ok
theorem i26_thr (k : Nat) : Qi26 (i26 k) := (qA k).i26_thr
def i29 (k : Nat) : Ti29 := (par0 k).i29
theorem i29_ok (k : Nat) : Pi29 (i29 k) := (qA k).i29_ok
theorem i29_thr (k : Nat) : Qi29 (i29 k) := (qA k).i29_thr
def i30 (k : Nat) : Ti30 := (par0 k).i30
theorem i30_ok (k : Nat) : Pi30 (i30 k) := (qA k).i30_ok
theorem i30_thr (k : Nat) : Qi30 (i30 k) := (qA k).i30_thr
def i31 (k : Nat) : Ti31 := (par0 k).i31
theorem i31_ok (k : Nat) : Pi31 (i31 k) := (qA k).i31_ok
theorem i31_thr (k : Nat) : Qi31 (i31 k) := (qA k).i31_thr
def i32 (k : Nat) : Ti32 := (par0 k).i32
theorem i32_ok (k : Nat) : Pi32 (i32 k) := (qA k).i32_ok
theorem i32_thr (k : Nat) : Qi32 (i32 k) := (qA k).i32_thr
def i34 (k : Nat) : Ti34 := (par0 k).i34
theorem i34_ok (k : Nat) : Pi34 (i34 k) := (qA k).i34_ok
theorem i34_thr (k : Nat) : Qi34 (i34 k) := (qA k).i34_thr
def i36 (k : Nat) : Ti36 := (par0 k).i36
theorem i36_ok (k : Nat) : Pi36 (i36 k) := (qA k).i36_ok
theorem i36_thr (k : Nat) : Qi36 (i36 k) := (qA k).i36_thr
def i37 (k : Nat) : Ti37 := (par0 k).i37
theorem i37_ok (k : Nat) : Pi37 (i37 k) := (qA k).i37_ok
theorem i37_thr (k : Nat) : Qi37 (i37 k) := (qA k).i37_thr
def i38 (k : Nat) : Ti38 := (par0 k).i38
theorem i38_ok (k : Nat) : Pi38 (i38 k) := (qA k).i38_ok
theorem i38_thr (k : Nat) : Qi38 (i38 k) := (qA k).i38_thr
def i40 (k : Nat) : Ti40 := (par0 k).i40
theorem i40_ok (k : Nat) : Pi40 (i40 k) := (qA k).i40_ok
theorem i40_thr (k : Nat) : Qi40 (i40 k) := (qA k).i40_thr
def i41 (k : Nat) : Ti41 := (par0 k).i41
theorem i41_ok (k : Nat) : Pi41 (i41 k) := (qA k).i41_ok
theorem i41_thr (k : Nat) : Qi41 (i41 k) := (qA k).i41_thr
def i42 (k : Nat) : Ti42 := (par0 k).i42
theorem i42_ok (k : Nat) : Pi42 (i42 k) := (qA k).i42_ok
theorem i42_thr (k : Nat) : Qi42 (i42 k) := (qA k).i42_thr
def i43 (k : Nat) : Ti43 := (par0 k).i43
theorem i43_ok (k : Nat) : Pi43 (i43 k) := (qA k).i43_ok
theorem i43_thr (k : Nat) : Qi43 (i43 k) := (qA k).i43_thr
def i44 (k : Nat) : Ti44 := (par0 k).i44
theorem i44_ok (k : Nat) : Pi44 (i44 k) := (qA k).i44_ok
theorem i44_thr (k : Nat) : Qi44 (i44 k) := (qA k).i44_thr
def i45 (k : Nat) : Ti45 := (par0 k).i45
theorem i45_ok (k : Nat) : Pi45 (i45 k) := (qA k).i45_ok
theorem i45_thr (k : Nat) : Qi45 (i45 k) := (qA k).i45_thr
def i46 (k : Nat) : Ti46 := (par0 k).i46
theorem i46_ok (k : Nat) : Pi46 (i46 k) := (qA k).i46_ok
theorem i46_thr (k : Nat) : Qi46 (i46 k) := (qA k).i46_thr
def i47 (k : Nat) : Ti47 := (par0 k).i47
theorem i47_ok (k : Nat) : Pi47 (i47 k) := (qA k).i47_ok
theorem i47_thr (k : Nat) : Qi47 (i47 k) := (qA k).i47_thr
def i48 (k : Nat) : Ti48 := (par0 k).i48
theorem i48_ok (k : Nat) : Pi48 (i48 k) := (qA k).i48_ok
theorem i48_thr (k : Nat) : Qi48 (i48 k) := (qA k).i48_thr
def i49 (k : Nat) : Ti49 := (par0 k).i49
theorem i49_ok (k : Nat) : Pi49 (i49 k) := (qA k).i49_ok
theorem i49_thr (k : Nat) : Qi49 (i49 k) := (qA k).i49_thr
def i50 (k : Nat) : Ti50 := (par0 k).i50
theorem i50_ok (k : Nat) : Pi50 (i50 k) := (qA k).i50_ok
theorem i50_thr (k : Nat) : Qi50 (i50 k) := (qA k).i50_thr
def i51 (k : Nat) : Ti51 := (par0 k).i51
theorem i51_ok (k : Nat) : Pi51 (i51 k) := (qA k).i51_ok
theorem i51_thr (k : Nat) : Qi51 (i51 k) := (qA k).i51_thr
def i52 (k : Nat) : Ti52 := (par0 k).i52
theorem i52_ok (k : Nat) : Pi52 (i52 k) := (qA k).i52_ok
theorem i52_thr (k : Nat) : Qi52 (i52 k) := (qA k).i52_thr
abbrev Ri3 : Type := (Int × Int × (List Nat) × Raw × Bool × Bool × (List (List Nat)) × (List (List Nat)))
abbrev Ti3 : Type := Int → Int → (List Nat) → Raw → Bool → Bool → (List (List Nat)) → (List (List Nat)) → (List Nat) → (List S33) → Int → Int → Option (Option Ri3)
def Pi3 (f : Ti3) : Prop := ∀ (a0 : Int) (a1 : Int) (a2 : (List Nat)) (a3 : Raw) (a4 : Bool) (a5 : Bool) (a6 : (List (List Nat))) (a7 : (List (List Nat))) (a8 : (List Nat)) (a9 : (List S33)) (a10 : Int) (a11 : Int), ∀ (x : Ri3), f a0 a1 a2 a3 a4 a5 a6 a7 a8 a9 a10 a11 = some (some x) → CallT Try.prog 28 [.ptr 2 4 0, .ptr 0 1 0, .ptr 1 7 0] (mkH [⟨[.i a0], 1, false⟩, ⟨[.i a1, .str a2, q29 a3, .bool a4, .bool a5, w9 a6, w9 a7], 7, false⟩, ⟨[.str a8, w34 a9, .i a10, .i a11], 4, false⟩]) none (.tuple []) (mkH [⟨[.i a0], 1, false⟩, ⟨[.i x.1, .str x.2.2.1, q29 x.2.2.2.1, .bool x.2.2.2.2.1, .bool x.2.2.2.2.2.1, w9 x.2.2.2.2.2.2.1, w9 x.2.2.2.2.2.2.2], 7, false⟩, ⟨[.str a8, w34 a9, .i x.2.1, .i a11], 4, false⟩])
def Qi3 (f : Ti3) : Prop := ∀ (a0 : Int) (a1 : Int) (a2 : (List Nat)) (a3 : Raw) (a4 : Bool) (a5 : Bool) (a6 : (List (List Nat))) (a7 : (List (List Nat))) (a8 : (List Nat)) (a9 : (List S33)) (a10 : Int) (a11 : Int) (_h : f a0 a1 a2 a3 a4 a5 a6 a7 a8 a9 a10 a11 = some none), ∃ v, CallT Try.prog 28 [.ptr 2 4 0, .ptr 0 1 0, .ptr 1 7 0] (mkH [⟨[.i a0], 1, false⟩, ⟨[.i a1, .str a2, q29 a3, .bool a4, .bool a5, w9 a6, w9 a7], 7, false⟩, ⟨[.str a8, w34 a9, .i a10, .i a11], 4, false⟩]) (some (thrown, [2])) v (mkH [⟨[.i a0], 1, false⟩, ⟨[.i a1, .str a2, q29 a3, .bool a4, .bool a5, w9 a6, w9 a7], 7, false⟩, ⟨[.str a8, w34 a9, .i a10, .i a11], 4, false⟩])
def Xi3 (a0 : Int) (a1 : Int) (a2 : (List Nat)) (a3 : Raw) (a4 : Bool) (a5 : Bool) (a6 : (List (List Nat))) (a7 : (List (List Nat))) (a8 : (List Nat)) (a9 : (List S33)) (a10 : Int) (a11 : Int) : Fx (Option Ri3) := ⟨Try.prog, cx, Try.f28, fun r => match r with | some r => .tuple [] | none => .top, 3, fun r => match r with | some r => (mkH [⟨[.i a0], 1, false⟩, ⟨[.i r.1, .str r.2.2.1, q29 r.2.2.2.1, .bool r.2.2.2.2.1, .bool r.2.2.2.2.2.1, w9 r.2.2.2.2.2.2.1, w9 r.2.2.2.2.2.2.2], 7, false⟩, ⟨[.str a8, w34 a9, .i r.2.1, .i a11], 4, false⟩]) | none => (mkH [⟨[.i a0], 1, false⟩, ⟨[.i a1, .str a2, q29 a3, .bool a4, .bool a5, w9 a6, w9 a7], 7, false⟩, ⟨[.str a8, w34 a9, .i a10, .i a11], 4, false⟩]), cxTi, cxOrd, fun r => match r with | some _ => none | none => some (thrown, [2]), false⟩
def i3p0 : Pt := nav [] (bodyAt Try.f28)
def i3 (k : Nat) (a0 : Int) (a1 : Int) (a2 : (List Nat)) (a3 : Raw) (a4 : Bool) (a5 : Bool) (a6 : (List (List Nat))) (a7 : (List (List Nat))) (a8 : (List Nat)) (a9 : (List S33)) (a10 : Int) (a11 : Int) : Option (Option Ri3) :=
 bT (i5 k a0 a8 a9 a10 a11) fun x0_2 => some (some (x0_2.1.f0, x0_2.2, x0_2.1.f1, x0_2.1.f2, x0_2.1.f3, x0_2.1.f4, x0_2.1.f5, x0_2.1.f6))
theorem i3_all (k : Nat) (a0 : Int) (a1 : Int) (a2 : (List Nat)) (a3 : Raw) (a4 : Bool) (a5 : Bool) (a6 : (List (List Nat))) (a7 : (List (List Nat))) (a8 : (List Nat)) (a9 : (List S33)) (a10 : Int) (a11 : Int) (r : (Option Ri3)) (h : i3 k a0 a1 a2 a3 a4 a5 a6 a7 a8 a9 a10 a11 = some r) : CallT Try.prog 28 [.ptr 2 4 0, .ptr 0 1 0, .ptr 1 7 0] (mkH [⟨[.i a0], 1, false⟩, ⟨[.i a1, .str a2, q29 a3, .bool a4, .bool a5, w9 a6, w9 a7], 7, false⟩, ⟨[.str a8, w34 a9, .i a10, .i a11], 4, false⟩]) ((Xi3 a0 a1 a2 a3 a4 a5 a6 a7 a8 a9 a10 a11).thr r) ((Xi3 a0 a1 a2 a3 a4 a5 a6 a7 a8 a9 a10 a11).enc r) ((Xi3 a0 a1 a2 a3 a4 a5 a6 a7 a8 a9 a10 a11).fin r) := by
 refine qA2 (Xi3 a0 a1 a2 a3 a4 a5 a6 a7 a8 a9 a10 a11) Try.func28 (by kernel_rfl) (by kernel_rfl) rfl (t := i3 k a0 a1 a2 a3 a4 a5 a6 a7 a8 a9 a10 a11) ?_ h
 unfold i3
 refine qA0 (eE := [(0, .ptr 2 4 0), (1, .ptr 0 1 0), (2, .ptr 1 7 0)]) (by kernel_rfl) ?_
 let Q1 : Blk := ⟨[.i a1, .str a2, q29 a3, .bool a4, .bool a5, w9 a6, w9 a7], 7, false⟩
 refine oH 3 (atN 2 (ctl1 i3p0)) [(5, .i a0), (4, .ptr 2 4 0), (0, .ptr 2 4 0), (1, .ptr 0 1 0), (2, .ptr 1 7 0)] (mkH [⟨[.i a0], 1, false⟩, Q1, ⟨[.str a8, w34 a9, .i a10, .i a11], 4, false⟩]) ?_
 refine oX (fun (x0_2 : (S28 × Int)) => n29 x0_2.1) (fun x0_2 => [⟨[.i a0], 1, false⟩, Q1, ⟨[.str a8, w34 a9, .i x0_2.2, .i a11], 4, false⟩]) (atN 3 (ctl1 i3p0)) 6 [2] [] [] [2] [] [.ptr 2 4 0, .i a0] (i5_thr k a0 a8 a9 a10 a11) (i5_ok k a0 a8 a9 a10 a11) trivial (fun _ => trivial) trivial fun x0_2 hx0_2 => ?_
 exact oQF 2 [⟨[.i a0], 1, false⟩, ⟨e29 x0_2.1, 7, false⟩, ⟨[.str a8, w34 a9, .i x0_2.2, .i a11], 4, false⟩] 3 [] [] (.tuple []) .ps trivial
theorem i3_ok (k : Nat) : Pi3 (i3 k) := fun a0 a1 a2 a3 a4 a5 a6 a7 a8 a9 a10 a11 x h => i3_all k a0 a1 a2 a3 a4 a5 a6 a7 a8 a9 a10 a11 (some x) h
theorem i3_thr (k : Nat) : Qi3 (i3 k) := fun a0 a1 a2 a3 a4 a5 a6 a7 a8 a9 a10 a11 h => ⟨_, i3_all k a0 a1 a2 a3 a4 a5 a6 a7 a8 a9 a10 a11 none h⟩
abbrev Ri0 : Type := (Int × Int × (List (List Nat)) × (List (List Nat)) × Int × (List Nat) × Raw × Bool × Bool)
abbrev Ti0 : Type := (List Nat) → (List S33) → Int → Int → Int → Int → (List Nat) → Raw → Bool → Bool → (List (List Nat)) → (List (List Nat)) → Option Ri0
def Pi0 (f : Ti0) : Prop := ∀ (a0 : (List Nat)) (a1 : (List S33)) (a2 : Int) (a3 : Int) (a4 : Int) (a5 : Int) (a6 : (List Nat)) (a7 : Raw) (a8 : Bool) (a9 : Bool) (a10 : (List (List Nat))) (a11 : (List (List Nat))), ∀ (x : Ri0), f a0 a1 a2 a3 a4 a5 a6 a7 a8 a9 a10 a11 = some x → CallT Try.prog 27 [.str a0, w34 a1, .i a2, .i a3, .func 28 [] [.ptr 0 1 0, .ptr 1 7 0]] (mkH [⟨[.i a4], 1, false⟩, ⟨[.i a5, .str a6, q29 a7, .bool a8, .bool a9, w9 a10, w9 a11], 7, false⟩]) none (.tuple [.i x.1, .i x.2.1]) (mkH [⟨[.i a4], 1, false⟩, ⟨[.i x.2.2.2.2.1, .str x.2.2.2.2.2.1, q29 x.2.2.2.2.2.2.1, .bool x.2.2.2.2.2.2.2.1, .bool x.2.2.2.2.2.2.2.2, w9 x.2.2.1, w9 x.2.2.2.1], 7, false⟩])
def Xi0 (a0 : (List Nat)) (a1 : (List S33)) (a2 : Int) (a3 : Int) (a4 : Int) (a5 : Int) (a6 : (List Nat)) (a7 : Raw) (a8 : Bool) (a9 : Bool) (a10 : (List (List Nat))) (a11 : (List (List Nat))) : Fx Ri0 := ⟨Try.prog, cx, Try.f27, fun r => .tuple [.i r.1, .i r.2.1], 2, fun r => (mkH [⟨[.i a4], 1, false⟩, ⟨[.i r.2.2.2.2.1, .str r.2.2.2.2.2.1, q29 r.2.2.2.2.2.2.1, .bool r.2.2.2.2.2.2.2.1, .bool r.2.2.2.2.2.2.2.2, w9 r.2.2.1, w9 r.2.2.2.1], 7, false⟩]), cxTi, cxOrd, fun _ => none, true⟩
def i0p0 : Pt := nav [0] (bodyAt Try.f27)
def i0p1 : Pt := nav [0, 0, 0, 0] i0p0
def i0p2 : Pt := nav [0, 0] i0p1
def i0p4 : Pt := nav [2, 0, 0] i0p2
def i0p6 : Pt := nav [0, 0, 0] i0p4
def i0p7 : Pt := nav [0, 0, 0] i0p6
def i0d27p0 : Pt := nav [0] (restAt Try.f46)
def i0d27p1 : Pt := nav [0, 0] i0d27p0
def i0d27p2 : Pt := nav [1, 0, 0] i0d27p1
def i0d27p4 : Pt := nav [0, 0, 0] i0d27p2
def i0 (k : Nat) (a0 : (List Nat)) (a1 : (List S33)) (a2 : Int) (a3 : Int) (a4 : Int) (a5 : Int) (a6 : (List Nat)) (a7 : Raw) (a8 : Bool) (a9 : Bool) (a10 : (List (List Nat))) (a11 : (List (List Nat))) : Option Ri0 :=
 jn (fun (z1 : Bool) => if z1 then (some ((0 : Int), (8 : Int), a10, a11, a5, a6, a7, a8, a9)) else (cT (i3 k a4 a5 a6 a7 a8 a9 a10 a11 a0 a1 a2 a3) (some ((0 : Int), (8 : Int), a10, a11, a5, a6, a7, a8, a9)) fun x0_2 => some (x0_2.2.1, (0 : Int), x0_2.2.2.2.2.2.2.1, x0_2.2.2.2.2.2.2.2, x0_2.1, x0_2.2.2.1, x0_2.2.2.2.1, x0_2.2.2.2.2.1, x0_2.2.2.2.2.2.1))) (fun j1 => if (decide (a2 < 0)) then (j1 true) else (if (decide ((a1.length : Int) < a3)) then (j1 true) else (j1 (decide (a3 < a2)))))
theorem i0_all (k : Nat) (a0 : (List Nat)) (a1 : (List S33)) (a2 : Int) (a3 : Int) (a4 : Int) (a5 : Int) (a6 : (List Nat)) (a7 : Raw) (a8 : Bool) (a9 : Bool) (a10 : (List (List Nat))) (a11 : (List (List Nat))) (r : Ri0) (h : i0 k a0 a1 a2 a3 a4 a5 a6 a7 a8 a9 a10 a11 = some r) : CallT Try.prog 27 [.str a0, w34 a1, .i a2, .i a3, .func 28 [] [.ptr 0 1 0, .ptr 1 7 0]] (mkH [⟨[.i a4], 1, false⟩, ⟨[.i a5, .str a6, q29 a7, .bool a8, .bool a9, w9 a10, w9 a11], 7, false⟩]) ((Xi0 a0 a1 a2 a3 a4 a5 a6 a7 a8 a9 a10 a11).thr r) ((Xi0 a0 a1 a2 a3 a4 a5 a6 a7 a8 a9 a10 a11).enc r) ((Xi0 a0 a1 a2 a3 a4 a5 a6 a7 a8 a9 a10 a11).fin r) := by
 refine qA2 (Xi0 a0 a1 a2 a3 a4 a5 a6 a7 a8 a9 a10 a11) Try.func27 (by kernel_rfl) (by kernel_rfl) rfl (t := i0 k a0 a1 a2 a3 a4 a5 a6 a7 a8 a9 a10 a11) ?_ h
 unfold i0
 refine qA0 (eE := [(0, .str a0), (1, w34 a1), (2, .i a2), (3, .i a3), (4, .func 28 [] [.ptr 0 1 0, .ptr 1 7 0])]) (by kernel_rfl) ?_
 let E1 : Env := [(15, .bool (decide (a2 < 0))), (14, .bool (decide (a2 < 0))), (13, .i a2), (11, .ptr 3 1 0), (10, .ptr 2 1 0), (0, .str a0), (1, w34 a1), (2, .i a2), (3, .i a3), (4, .func 28 [] [.ptr 0 1 0, .ptr 1 7 0])]
 let Q1 : Blk := ⟨[.i a5, .str a6, q29 a7, .bool a8, .bool a9, w9 a10, w9 a11], 7, false⟩
 let K1 : List Blk := [⟨[.i a4], 1, false⟩, Q1, ⟨[.i 0], 0, false⟩, ⟨[.i 0], 0, false⟩]
 refine oH 11 (atN 3 (ctl1 i0p1)) E1 (mkH K1) ?_
 refine oJ i0p2 (fun (z1 : Bool) => [(0, .str a0), (1, w34 a1), (2, .i a2), (3, .i a3), (4, .func 28 [] [.ptr 0 1 0, .ptr 1 7 0]), (10, .ptr 2 1 0), (11, .ptr 3 1 0), (25, .bool z1)]) (fun (z1 : Bool) => (mkH K1)) (fun z1 => ?_) (fun j1 hj1 => ?_)
 ·refine oS 25 (fun hb => ?_) (fun hb => ?_)
  ·let E2 : Env := [(25, .bool true), (0, .str a0), (1, w34 a1), (2, .i a2), (3, .i a3), (4, .func 28 [] [.ptr 0 1 0, .ptr 1 7 0]), (10, .ptr 2 1 0), (11, .ptr 3 1 0), (25, .bool z1)]
   exact oQF 7 [⟨[.i a4], 1, false⟩, Q1, ⟨[.i 0], 1, false⟩, ⟨[.i 8], 1, false⟩] 2 [] [.i 0, .i 8] (.tuple [.i 0, .i 8]) .ps trivial
  ·let E4 : Env := [(4, .func 28 [] [.ptr 0 1 0, .ptr 1 7 0]), (10, .ptr 2 1 0), (11, .ptr 3 1 0), (12, .ptr 4 4 0)]
   let K2 : List Blk := [⟨[.i a4], 1, false⟩, Q1, ⟨[.i 0], 0, false⟩, ⟨[.i 0], 0, false⟩, ⟨[.str a0, w34 a1, .i a2, .i a3], 0, false⟩]
   refine oLH 13 i0p6 E4 (mkH K2) ?_
   refine oR 2 (atN 1 (ctl1 i0p6)) ((32, .func 46 [] [.ptr 2 1 0, .ptr 3 1 0]) :: E4) ?_
   refine qIi (f := 46) (caps := [.ptr 2 1 0, .ptr 3 1 0]) (by kernel_rfl) ?_
   refine okD_at (p' := (atN 2 (ctl1 i0p6))) (by kernel_rfl) ?_
   refine qDy 5 (p' := (atN 2 (ctl1 i0p7))) (eE := ((34, .ptr 4 4 0) :: (33, .func 28 [] [.ptr 0 1 0, .ptr 1 7 0]) :: (32, .func 46 [] [.ptr 2 1 0, .ptr 3 1 0]) :: E4)) (H' := (mkH K2)) (by kernel_rfl) ?_
   let Q3 : Blk := ⟨[.str a0, w34 a1, .i a2, .i a3], 4, false⟩
   let K3 : List Blk := [⟨[.i a4], 1, false⟩, Q1, ⟨[.i 0], 0, false⟩, ⟨[.i 0], 0, false⟩, Q3]
   let K4 : List Blk := [⟨[.i a4], 1, false⟩, Q1, ⟨[.i 0], 1, false⟩, ⟨[.i 8], 1, false⟩, Q3]
   refine qIk (tv := thrown) (D := [4]) (rc := ((0 : Int), (8 : Int), a10, a11, a5, a6, a7, a8, a9)) (tc := some ((0 : Int), (8 : Int), a10, a11, a5, a6, a7, a8, a9)) (xs := [.i 0, .i 8]) (v := .tuple [.i 0, .i 8]) (fi := 28) (args := [.ptr 4 4 0, .ptr 0 1 0, .ptr 1 7 0]) (fun (x0_2 : Ri3) => .tuple []) (fun (x0_2 : Ri3) => (mkH [⟨[.i a4], 1, false⟩, ⟨[.i x0_2.1, .str x0_2.2.2.1, q29 x0_2.2.2.2.1, .bool x0_2.2.2.2.2.1, .bool x0_2.2.2.2.2.2.1, w9 x0_2.2.2.2.2.2.2.1, w9 x0_2.2.2.2.2.2.2.2], 7, false⟩, ⟨[.i 0], 0, false⟩, ⟨[.i 0], 0, false⟩, ⟨[.str a0, w34 a1, .i x0_2.2.1, .i a3], 4, false⟩])) (atN 3 (ctl1 i0p7)) (fun x0_2 => [(35, .tuple []), (34, .ptr 4 4 0), (33, .func 28 [] [.ptr 0 1 0, .ptr 1 7 0]), (32, .func 46 [] [.ptr 2 1 0, .ptr 3 1 0]), (4, .func 28 [] [.ptr 0 1 0, .ptr 1 7 0]), (10, .ptr 2 1 0), (11, .ptr 3 1 0), (12, .ptr 4 4 0)]) K3 [⟨[.i a4], 1, false⟩, Q1] [⟨[.i 0], 1, false⟩, ⟨[.i 8], 1, false⟩, Q3] [(10, .ptr 2 1 0), (11, .ptr 3 1 0)] [10, 11] 4 rfl rfl (by kernel_rfl) (fun h => frS 0 (M := K3) (rs := [0, 1, 4]) (ms := []) (mv := []) (mm := []) (D := [4]) (xs' := [.ptr 4 4 0, .ptr 0 1 0, .ptr 1 7 0]) (.refl) (i3_thr k a4 a5 a6 a7 a8 a9 a10 a11 a0 a1 a2 a3 h) trivial trivial (by kernel_rfl)) (by kernel_rfl) (by kernel_rfl) (by kernel_rfl) (by kernel_rfl) (qDl (⟨Try.prog, cx, Try.f46, fun _ => .tuple [], 5, fun _ => (mkH K4), cxTi, cxOrd, fun _ => none, false⟩ : Fx Unit) 5 2 (x := .iface 72 (.agg [])) qEe (by kernel_rfl) (by kernel_rfl) (by kernel_rfl) rfl rfl rfl rfl ?_) rfl (by kernel_rfl) (by kernel_rfl) (by kernel_rfl) (.pures (by kernel_rfl)) ⟨(by kernel_rfl), ⟨(by kernel_rfl), trivial⟩⟩ (by kernel_rfl) (by kernel_rfl) (fun x0_2 h => frW 0 K3 (rs := [0, 1, 4]) (ms := []) (ms' := []) (mv := []) (xs' := [.ptr 4 4 0, .ptr 0 1 0, .ptr 1 7 0]) (.refl) (i3_ok k a4 a5 a6 a7 a8 a9 a10 a11 a0 a1 a2 a3 x0_2 h) trivial trivial (by kernel_rfl)) (fun _ => by kernel_rfl) (fun x0_2 hx0_2 => ?_)
   ·refine oE [(2, .iface 72 (.agg [])), (5, .iface 72 (.agg [])), (0, .ptr 2 1 0), (1, .ptr 3 1 0)] ?_
    let E1 : Env := [(4, .bool true), (3, .ptr 5 0 0), (12, .bool true), (11, .agg []), (8, .tuple [.agg [], .bool true]), (10, .tuple [.agg [], .bool true]), (9, .iface 72 (.agg [])), (7, .bool true), (6, .iface 72 (.agg [])), (2, .iface 72 (.agg [])), (5, .iface 72 (.agg [])), (0, .ptr 2 1 0), (1, .ptr 3 1 0)]
    let E2 : Env := [(0, .ptr 2 1 0), (1, .ptr 3 1 0), (2, .iface 72 (.agg [])), (4, .bool true)]
    refine oLH 19 i0d27p4 E2 (mkH [⟨[.i a4], 1, false⟩, Q1, ⟨[.i 0], 0, false⟩, ⟨[.i 0], 0, false⟩, Q3, ⟨[], 0, false⟩]) ?_
    refine oH 10 .fin ((14, .bool false) :: (13, .bool true) :: E2) (mkH [⟨[.i a4], 1, false⟩, Q1, ⟨[.i 0], 1, false⟩, ⟨[.i 8], 1, false⟩, Q3, ⟨[], 0, false⟩]) ?_
    refine qAc K4 [⟨[], 0, false⟩] (by kernel_rfl) rfl (by kernel_rfl) ⟨(by kernel_rfl), ⟨(by kernel_rfl), ⟨(by kernel_rfl), ⟨(by kernel_rfl), ⟨(by kernel_rfl), trivial⟩⟩⟩⟩⟩ ?_
    exact qF8 (r := ()) (xs := []) (by kernel_rfl) (by kernel_rfl) (by kernel_rfl) (by kernel_rfl)
   ·let Q4 : Blk := ⟨[.i x0_2.1, .str x0_2.2.2.1, q29 x0_2.2.2.2.1, .bool x0_2.2.2.2.2.1, .bool x0_2.2.2.2.2.2.1, w9 x0_2.2.2.2.2.2.2.1, w9 x0_2.2.2.2.2.2.2.2], 7, false⟩
    let Q5 : Blk := ⟨[.i x0_2.2.1], 1, false⟩
    let Q6 : Blk := ⟨[.str a0, w34 a1, .i x0_2.2.1, .i a3], 4, false⟩
    let K5 : List Blk := [⟨[.i a4], 1, false⟩, Q4, Q5, ⟨[.i 0], 1, false⟩, Q6]
    refine qDy 11 (p' := .fin) (eE := ((39, .i x0_2.2.1) :: (38, .ptr 4 4 2) :: (37, .ptr 4 4 0) :: (36, .ptr 4 4 0) :: (35, .tuple []) :: (34, .ptr 4 4 0) :: (33, .func 28 [] [.ptr 0 1 0, .ptr 1 7 0]) :: (32, .func 46 [] [.ptr 2 1 0, .ptr 3 1 0]) :: E4)) (H' := (mkH K5)) (by kernel_rfl) ?_
    refine qLp (r := (x0_2.2.1, (0 : Int), x0_2.2.2.2.2.2.2.1, x0_2.2.2.2.2.2.2.2, x0_2.1, x0_2.2.2.1, x0_2.2.2.2.1, x0_2.2.2.2.2.1, x0_2.2.2.2.2.2.1)) (xs := [.i x0_2.2.1, .i 0]) (v := .tuple [.i x0_2.2.1, .i 0]) K5 [⟨[.i a4], 1, false⟩, Q4] [Q5, ⟨[.i 0], 1, false⟩, Q6] rfl rfl (qDl (⟨Try.prog, cx, Try.f46, fun _ => .tuple [], 5, fun _ => (mkH K5), cxTi, cxOrd, fun _ => none, false⟩ : Fx Unit) 5 2 (x := .nili) qIm (by kernel_rfl) (by kernel_rfl) (by kernel_rfl) rfl rfl rfl rfl ?_) (by kernel_rfl) (by kernel_rfl) (by kernel_rfl) (by kernel_rfl) (.pures (by kernel_rfl)) ⟨(by kernel_rfl), ⟨(by kernel_rfl), trivial⟩⟩ (by kernel_rfl) (by kernel_rfl)
    let E1 : Env := [(7, .bool false), (6, .nili), (2, .nili), (5, .nili), (0, .ptr 2 1 0), (1, .ptr 3 1 0)]
    refine oH 7 .fin E1 (mkH K5) ?_
    exact qF8 (r := ()) (xs := []) (by kernel_rfl) (by kernel_rfl) (by kernel_rfl) (by kernel_rfl)
 ·refine oS 15 (fun hb => ?_) (fun hb => ?_)
  ·refine oLH 11 i0p2 [(0, .str a0), (1, w34 a1), (2, .i a2), (3, .i a3), (4, .func 28 [] [.ptr 0 1 0, .ptr 1 7 0]), (10, .ptr 2 1 0), (11, .ptr 3 1 0), (25, .bool true)] (mkH K1) ?_
   exact hj1 true
  ·let E8 : Env := ((21, .bool (decide ((a1.length : Int) < a3))) :: (20, .bool (decide ((a1.length : Int) < a3))) :: (19, .bool (decide ((a1.length : Int) < a3))) :: (18, .i (a1.length : Int)) :: (17, w34 a1) :: (16, .i a3) :: (15, .bool false) :: E1)
   refine oH 6 (atN 9 (ctl1 i0p1)) E8 (mkH K1) ?_
   refine oS 21 (fun hb => ?_) (fun hb => ?_)
   ·refine oR 5 i0p2 ((25, .bool true) :: (24, .tuple []) :: (23, .tuple []) :: (22, .tuple []) :: (21, .bool true) :: E8) ?_
    refine oK [0, 1, 2, 3, 4, 10, 11, 25] [(0, .str a0), (1, w34 a1), (2, .i a2), (3, .i a3), (4, .func 28 [] [.ptr 0 1 0, .ptr 1 7 0]), (10, .ptr 2 1 0), (11, .ptr 3 1 0), (25, .bool true)] ?_
    exact hj1 true
   ·refine oL 5 i0p2 [(0, .str a0), (1, w34 a1), (2, .i a2), (3, .i a3), (4, .func 28 [] [.ptr 0 1 0, .ptr 1 7 0]), (10, .ptr 2 1 0), (11, .ptr 3 1 0), (25, .bool (decide (a3 < a2)))] ?_
    exact hj1 (decide (a3 < a2))
theorem i0_ok (k : Nat) : Pi0 (i0 k) := fun a0 a1 a2 a3 a4 a5 a6 a7 a8 a9 a10 a11 x h => i0_all k a0 a1 a2 a3 a4 a5 a6 a7 a8 a9 a10 a11 x h
def Xg14 : Fx (S28 × Int × Int) := ⟨Try.prog, cx, Try.f14, fun r => .tuple [.agg [.i r.1.f0, .str r.1.f1, q29 r.1.f2, .bool r.1.f3, .bool r.1.f4, w9 r.1.f5, w9 r.1.f6], .i r.2.1, .i r.2.2], 0, fun _ => H0, cxTi, cxOrd, fun _ => none, false⟩
def g14p0 : Pt := nav [0] (bodyAt Try.f14)
def g14p1 : Pt := nav [0, 0, 0] g14p0
def g14p2 : Pt := nav [0, 0, 0] g14p1
def g14p3 : Pt := nav [0, 0, 0] g14p2
def g14 (k : Nat) (a0 : (List Nat)) (a1 : (List S33)) (a2 : Int) (a3 : Int) (a4 : Int) : Option (S28 × Int × Int) :=
 (i0 k a0 a1 a2 a3 a4 (0 : Int) ([] : List Nat) (⟨(([] : List S28)).length, (([] : List S28)).flatMap e29⟩ : Raw) false false ([] : List (List Nat)) ([] : List (List Nat))).bind fun x0_5 => (g30 k (⟨x0_5.2.2.2.2.1, x0_5.2.2.2.2.2.1, x0_5.2.2.2.2.2.2.1, x0_5.2.2.2.2.2.2.2.1, x0_5.2.2.2.2.2.2.2.2, x0_5.2.2.1, x0_5.2.2.2.1⟩ : S28) x0_5.2.1).bind fun x1_2 => some ((⟨x1_2.f0, x1_2.f1, x1_2.f2, x1_2.f3, x1_2.f4, x1_2.f5, x1_2.f6⟩ : S28), x0_5.1, x0_5.2.1)
theorem qNy (k : Nat) (a0 : (List Nat)) (a1 : (List S33)) (a2 : Int) (a3 : Int) (a4 : Int) (r : (S28 × Int × Int)) (h : g14 k a0 a1 a2 a3 a4 = some r) : PureOk Try.prog 14 [.str a0, w34 a1, .i a2, .i a3, .i a4] (.tuple [.agg [.i r.1.f0, .str r.1.f1, q29 r.1.f2, .bool r.1.f3, .bool r.1.f4, w9 r.1.f5, w9 r.1.f6], .i r.2.1, .i r.2.2]) := by
 refine qA5 Xg14 (fun _ => ⟨rfl, rfl⟩) Try.func14 (by decide +kernel) (by kernel_rfl) (t := g14 k a0 a1 a2 a3 a4) ?_ h
 unfold g14
 refine qA0 (eE := [(0, .str a0), (1, w34 a1), (2, .i a2), (3, .i a3), (4, .i a4)]) (by kernel_rfl) ?_
 let E1 : Env := [(13, .ptr 2 7 0), (12, .i 0), (11, .i 0), (10, .ptr 1 7 0), (9, .ptr 0 1 0), (0, .str a0), (1, w34 a1), (2, .i a2), (3, .i a3), (4, .i a4)]
 let Q1 : Blk := ⟨[.i 0, .str [], .nils, .bool false, .bool false, .nils, .nils], 0, false⟩
 refine oH 12 g14p2 E1 (mkH [⟨[.i a4], 0, false⟩, Q1, Q1]) ?_
 refine qCt [⟨[.i a4], 0, false⟩, Q1, Q1] 2 0 [.i 0, .str [], .nils, .bool false, .bool false, .nils, .nils] [.i 0, .str [], w29 ([] : List S28), .bool false, .bool false, w9 ([] : List (List Nat)), w9 ([] : List (List Nat))] (by kernel_rfl) rfl (.cons (.cons (.nil (.cons (.cons (.nil (.nil (.refl)))))))) ?_
 let E2 : Env := ((21, .func 28 [] [.ptr 0 1 0, .ptr 2 7 0]) :: (20, .i a3) :: (19, .i a2) :: (18, w34 a1) :: (17, .str a0) :: E1)
 refine oH 6 (atN 5 (ctl1 g14p2)) E2 (mkH [⟨[.i a4], 0, false⟩, Q1, ⟨[.i 0, .str [], w29 ([] : List S28), .bool false, .bool false, w9 ([] : List (List Nat)), w9 ([] : List (List Nat))], 0, false⟩]) ?_
 refine qFa (fun (x0_5 : Ri0) => .tuple [.i x0_5.1, .i x0_5.2.1]) (fun (x0_5 : Ri0) => (mkH [⟨[.i a4], 1, false⟩, Q1, ⟨[.i x0_5.2.2.2.2.1, .str x0_5.2.2.2.2.2.1, q29 x0_5.2.2.2.2.2.2.1, .bool x0_5.2.2.2.2.2.2.2.1, .bool x0_5.2.2.2.2.2.2.2.2, w9 x0_5.2.2.1, w9 x0_5.2.2.2.1], 7, false⟩])) (atN 6 (ctl1 g14p2)) (fun x0_5 => ((22, .tuple [.i x0_5.1, .i x0_5.2.1]) :: E2)) (fi := 27) (args := [.str a0, w34 a1, .i a2, .i a3, .func 28 [] [.ptr 0 1 0, .ptr 2 7 0]]) (by kernel_rfl) (fun x0_5 h => frW 0 [⟨[.i a4], 1, false⟩, Q1, ⟨[.i 0, .str [], w29 ([] : List S28), .bool false, .bool false, w9 ([] : List (List Nat)), w9 ([] : List (List Nat))], 7, false⟩] (rs := [0, 2]) (ms := []) (ms' := []) (mv := []) (xs' := [.str a0, w34 a1, .i a2, .i a3, .func 28 [] [.ptr 0 1 0, .ptr 2 7 0]]) (.refl) (i0_ok k a0 a1 a2 a3 a4 (0 : Int) ([] : List Nat) (⟨(([] : List S28)).length, (([] : List S28)).flatMap e29⟩ : Raw) false false ([] : List (List Nat)) ([] : List (List Nat)) x0_5 h) trivial trivial (by kernel_rfl)) (fun _ => by kernel_rfl) (fun x0_5 hx0_5 => ?_)
 let E4 : Env := [(10, .ptr 1 7 0), (13, .ptr 2 7 0), (14, .i x0_5.1), (15, .i x0_5.2.1)]
 refine oLH 7 g14p3 E4 (mkH [⟨[.i a4], 1, false⟩, Q1, ⟨[.i x0_5.2.2.2.2.1, .str x0_5.2.2.2.2.2.1, q29 x0_5.2.2.2.2.2.2.1, .bool x0_5.2.2.2.2.2.2.2.1, .bool x0_5.2.2.2.2.2.2.2.2, w9 x0_5.2.2.1, w9 x0_5.2.2.2.1], 7, false⟩]) ?_
 refine oR 3 (atN 2 (ctl1 g14p3)) ((26, .i x0_5.2.1) :: (25, .agg [.i x0_5.2.2.2.2.1, .str x0_5.2.2.2.2.2.1, q29 x0_5.2.2.2.2.2.2.1, .bool x0_5.2.2.2.2.2.2.2.1, .bool x0_5.2.2.2.2.2.2.2.2, w9 x0_5.2.2.1, w9 x0_5.2.2.2.1]) :: E4) ?_
 refine oA (fun (x1_2 : S28) => n29 x1_2) (atN 3 (ctl1 g14p3)) 27 [.agg [.i x0_5.2.2.2.2.1, .str x0_5.2.2.2.2.2.1, q29 x0_5.2.2.2.2.2.2.1, .bool x0_5.2.2.2.2.2.2.2.1, .bool x0_5.2.2.2.2.2.2.2.2, w9 x0_5.2.2.1, w9 x0_5.2.2.2.1], .i x0_5.2.1] (g30_ok k (⟨x0_5.2.2.2.2.1, x0_5.2.2.2.2.2.1, x0_5.2.2.2.2.2.2.1, x0_5.2.2.2.2.2.2.2.1, x0_5.2.2.2.2.2.2.2.2, x0_5.2.2.1, x0_5.2.2.2.1⟩ : S28) x0_5.2.1) fun x1_2 hx1_2 => ?_
 exact oQ 7
def Xg17 : Fx (S28 × Int) := ⟨Try.prog, cx, Try.f17, fun r => .tuple [.agg [.i r.1.f0, .str r.1.f1, q29 r.1.f2, .bool r.1.f3, .bool r.1.f4, w9 r.1.f5, w9 r.1.f6], .i r.2], 0, fun _ => H0, cxTi, cxOrd, fun _ => none, false⟩
def g17p0 : Pt := nav [0] (bodyAt Try.f17)
def g17p1 : Pt := nav [0, 0, 0] g17p0
def g17p2 : Pt := nav [0, 0, 0, 0] g17p1
def g17p3 : Pt := nav [0, 0] g17p2
def g17p5 : Pt := nav [2, 0, 0] g17p3
def g17p7 : Pt := nav [0, 0, 0, 0] g17p5
def g17p8 : Pt := nav [0, 0] g17p7
def g17 (k : Nat) (a0 : (List Nat)) : Option (S28 × Int) :=
 (g13 k a0).bind fun x0_1 => if (!decide (x0_1.2 = 0)) then (some ((⟨(0 : Int), ([] : List Nat), ⟨0, []⟩, false, false, ([] : List (List Nat)), ([] : List (List Nat))⟩ : S28), x0_1.2)) else ((g14 k a0 x0_1.1 (0 : Int) (x0_1.1.length : Int) (0 : Int)).bind fun x1_4 => jn (fun (z2 : Bool) => if z2 then (some ((⟨(0 : Int), ([] : List Nat), ⟨0, []⟩, false, false, ([] : List (List Nat)), ([] : List (List Nat))⟩ : S28), (8 : Int))) else (some ((⟨x1_4.1.f0, x1_4.1.f1, x1_4.1.f2, x1_4.1.f3, x1_4.1.f4, x1_4.1.f5, x1_4.1.f6⟩ : S28), x1_4.2.2))) (fun j2 => if (decide (x1_4.2.2 = 0)) then (j2 (!decide (x1_4.2.1 = (x0_1.1.length : Int)))) else (j2 false)))
theorem g17_ok (k : Nat) (a0 : (List Nat)) (r : (S28 × Int)) (h : g17 k a0 = some r) : PureOk Try.prog 17 [.str a0] (.tuple [.agg [.i r.1.f0, .str r.1.f1, q29 r.1.f2, .bool r.1.f3, .bool r.1.f4, w9 r.1.f5, w9 r.1.f6], .i r.2]) := by
 refine qA5 Xg17 (fun _ => ⟨rfl, rfl⟩) Try.func17 (by decide +kernel) (by kernel_rfl) (t := g17 k a0) ?_ h
 unfold g17
 refine qA0 (eE := [(0, .str a0)]) (by kernel_rfl) ?_
 let Q1 : Blk := ⟨[.i 0, .str [], .nils, .bool false, .bool false, .nils, .nils], 0, false⟩
 refine oH 8 (atN 1 (ctl1 g17p1)) [(10, .str a0), (3, .i 0), (2, .ptr 0 7 0), (0, .str a0)] (mkH [Q1]) ?_
 refine oA (fun (x0_1 : ((List S33) × Int)) => .tuple [w34 x0_1.1, .i x0_1.2]) (atN 2 (ctl1 g17p1)) 11 [.str a0] (g13_ok k a0) fun x0_1 hx0_1 => ?_
 let E2 : Env := [(0, .str a0), (2, .ptr 0 7 0), (4, w34 x0_1.1), (5, .i x0_1.2), (15, .bool (!decide (x0_1.2 = 0)))]
 refine oL 12 g17p3 E2 ?_
 refine oS 15 (fun hb => ?_) (fun hb => ?_)
 ·refine oH 9 .fin ((3, .i x0_1.2) :: (17, .i x0_1.2) :: (16, .agg [.i 0, .str [], .nils, .bool false, .bool false, .nils, .nils]) :: (15, .bool true) :: E2) (mkH [⟨[.i 0, .str [], .nils, .bool false, .bool false, .nils, .nils], 7, false⟩]) ?_
  exact oT [.agg [.i 0, .str [], .nils, .bool false, .bool false, .nils, .nils], .i x0_1.2] (.tuple [.agg [.i 0, .str [], .vec 0 7 [], .bool false, .bool false, .vec 0 1 [], .vec 0 1 []], .i x0_1.2]) (.tuple (.agg (.cs (.cs (.nil (.cs (.cs (.nil (.nil .ps))))))) .ps) .ps)
 ·refine oR 8 (atN 4 (ctl1 g17p5)) ((22, .i (x0_1.1.length : Int)) :: (21, w34 x0_1.1) :: (20, w34 x0_1.1) :: (19, .str a0) :: (15, .bool false) :: E2) ?_
  refine oA (fun (x1_4 : (S28 × Int × Int)) => .tuple [n29 x1_4.1, .i x1_4.2.1, .i x1_4.2.2]) (atN 5 (ctl1 g17p5)) 23 [.str a0, w34 x0_1.1, .i 0, .i (x0_1.1.length : Int), .i 0] (qNy k a0 x0_1.1 (0 : Int) (x0_1.1.length : Int) (0 : Int)) fun x1_4 hx1_4 => ?_
  let E5 : Env := [(2, .ptr 0 7 0), (4, w34 x0_1.1), (6, .ptr 1 7 0), (7, .i x1_4.2.1), (8, .i x1_4.2.2)]
  refine oLH 11 g17p7 E5 (mkH [Q1, ⟨e29 x1_4.1, 7, false⟩]) ?_
  refine oR 4 (atN 3 (ctl1 g17p7)) ((29, .bool (decide (x1_4.2.2 = 0))) :: (28, .bool (decide (x1_4.2.2 = 0))) :: (27, .i x1_4.2.2) :: E5) ?_
  refine oJ g17p8 (fun (z2 : Bool) => [(2, .ptr 0 7 0), (6, .ptr 1 7 0), (8, .i x1_4.2.2), (34, .bool z2)]) (fun (z2 : Bool) => (mkH [Q1, ⟨e29 x1_4.1, 7, false⟩])) (fun z2 => ?_) (fun j2 hj2 => ?_)
  ·refine oS 34 (fun hb => ?_) (fun hb => ?_)
   ·refine oH 8 .fin [(3, .i 8), (35, .agg [.i 0, .str [], .nils, .bool false, .bool false, .nils, .nils]), (34, .bool true), (2, .ptr 0 7 0), (6, .ptr 1 7 0), (8, .i x1_4.2.2), (34, .bool z2)] (mkH [⟨[.i 0, .str [], .nils, .bool false, .bool false, .nils, .nils], 7, false⟩, ⟨e29 x1_4.1, 7, false⟩]) ?_
    exact oT [.agg [.i 0, .str [], .nils, .bool false, .bool false, .nils, .nils], .i 8] (.tuple [.agg [.i 0, .str [], .vec 0 7 [], .bool false, .bool false, .vec 0 1 [], .vec 0 1 []], .i 8]) (.tuple (.agg (.cs (.cs (.nil (.cs (.cs (.nil (.nil .ps))))))) .ps) .ps)
   ·exact oQ 10
  ·refine oS 29 (fun hb => ?_) (fun hb => ?_)
   ·refine oLH 6 g17p8 [(2, .ptr 0 7 0), (6, .ptr 1 7 0), (8, .i x1_4.2.2), (34, .bool (!decide (x1_4.2.1 = (x0_1.1.length : Int))))] (mkH [Q1, ⟨e29 x1_4.1, 7, false⟩]) ?_
    exact hj2 (!decide (x1_4.2.1 = (x0_1.1.length : Int)))
   ·refine oLH 6 g17p8 [(2, .ptr 0 7 0), (6, .ptr 1 7 0), (8, .i x1_4.2.2), (34, .bool false)] (mkH [Q1, ⟨e29 x1_4.1, 7, false⟩]) ?_
    exact hj2 false
def fg26 (k : Nat) (a0 : (List Nat)) (a1 : Int) : Option (S33 × Int) :=
 jn (fun (z17 : Bool) => if z17 then (some ((⟨(0 : Int), ([] : List Nat), (0 : Int)⟩ : S33), (4 : Int))) else ((nthS a0 a1).bind fun x0_2 => if (decide (x0_2 = 37)) then (qFl k a0 a1 k a1) else (jn (fun (z19 : Bool) => jn (fun (z20 : Int × Int) => if (decide (z20.2 = 0)) then (some ((⟨(0 : Int), ([] : List Nat), (0 : Int)⟩ : S33), (4 : Int))) else ((subL a0 (some a1) (some (fW .i64 (a1 + z20.2)))).bind fun x14_6 => some ((⟨z20.1, x14_6, a1⟩ : S33), (0 : Int)))) (fun j20 => if z19 then (j20 (10, 1)) else ((g38 k x0_2).bind fun x2_1 => if (decide (x2_1 = 3)) then ((g39 k a0 a1).bind fun x3_2 => some ((⟨x3_2.1.f0, x3_2.1.f1, x3_2.1.f2⟩ : S33), x3_2.2)) else ((g38 k x0_2).bind fun x4_1 => if (decide (0 < x4_1)) then ((g38 k x0_2).bind fun x5_1 => (g40 k a0 a1).bind fun x5_4 => (subL a0 (some a1) (some (fW .i64 (a1 + fW .i64 (x5_4 - a1))))).bind fun x6_5 => (g41 k x6_5).bind fun x6_6 => if x6_6 then (j20 (8, fW .i64 (x5_4 - a1))) else (j20 (x5_1, fW .i64 (x5_4 - a1)))) else (if (decide (x0_2 = 39)) then ((g42 k a0 a1).bind fun x7_2 => j20 (1, x7_2)) else (if (decide (x0_2 = 34)) then ((g42 k a0 a1).bind fun x8_2 => j20 (6, x8_2)) else (if (decide (x0_2 = 36)) then ((g43 k a0 a1).bind fun x9_2 => j20 (5, x9_2)) else (if (decide (x0_2 = 63)) then (jn (fun (z21 : Bool) => jn (fun (z22 : Int) => jn (fun (z23 : Bool) => if z23 then ((g40 k a0 z22).bind fun x13_2 => j20 (7, fW .i64 (x13_2 - a1))) else (j20 (0, 0))) (fun j23 => if (decide (z22 < (a0.length : Int))) then ((nthS a0 z22).bind fun x12_7 => (g44 k x12_7).bind fun x12_8 => if x12_8 then (j23 true) else ((nthS a0 z22).bind fun x12_12 => j23 (decide (x12_12 = 95)))) else (j23 false))) (fun j22 => if z21 then (j22 (fW .i64 (fW .i64 (a1 + 1) + 1))) else (j22 (fW .i64 (a1 + 1))))) (fun j21 => if (decide (fW .i64 (a1 + 1) < (a0.length : Int))) then ((nthS a0 (fW .i64 (a1 + 1))).bind fun x10_7 => j21 (decide (x10_7 = 63))) else (j21 false))) else ((some ((lngN (a0.drop a1.toNat) : Nat) : Int)).bind fun x11_2 => j20 (9, x11_2)))))))))) (fun j19 => if (decide (x0_2 = 46)) then (if (decide (fW .i64 (a1 + 1) = (a0.length : Int))) then (j19 true) else ((nthS a0 (fW .i64 (a1 + 1))).bind fun x1_12 => if (decide (x1_12 = 37)) then (j19 true) else ((g25 k a0 (fW .i64 (a1 + 1))).bind fun x1_19 => j19 (decide (fW .i64 (a1 + 1) < x1_19))))) else (j19 false))))) (fun j17 => if (decide (a1 < 0)) then (j17 true) else (j17 (decide ((a0.length : Int) ≤ a1))))
theorem fast_one {k : Nat} (hk : 38 ≤ k) {s : List Nat} (hl : Sz s) (a : Int) : g26 k s a = fg26 k s a := by
 by_cases h : 0 ≤ a ∧ a < (s.length : Int)
 ·obtain ⟨i, rfl⟩ : ∃ i : Nat, a = (i : Int) := ⟨a.toNat, by omega⟩
  unfold g26 fg26
  rw [qGp hk hl (by omega), Int.toNat_natCast]
 ·unfold g26 fg26
  refine ((jS (v := true) (fun j => ?_)).trans (iT rfl rfl)).trans ((jS (v := true) (fun j => ?_)).trans (iT rfl rfl)).symm
  ·by_cases h0 : a < 0
   ·exact iT (dT h0) rfl
   ·exact iF (dF h0) (by rw [dT (by omega)])
  ·by_cases h0 : a < 0
   ·exact iT (dT h0) rfl
   ·exact iF (dF h0) (by rw [dT (by omega)])
theorem qKv {k : Nat} {s : List Nat} {i b : Nat} {r : List Nat} (h : s.drop i = b :: r) (hb : b < 128) : g36 k s (i : Int) = some ((b : Int), 1) := by
 have hl := drop_len h
 unfold g36
 refine (jS (v := false) (fun j => iF (dF (by omega)) (by rw [dF (by omega)]))).trans (iF rfl (bS (nthX rfl h) ?_))
 rw [fwI (n := (b : Int)) (by omega) (by omega)]
 exact iT (dT (by omega)) rfl
theorem ascii_l {k : Nat} {s : List Nat} (hl : Sz s) (hb : ∀ b ∈ s, b < 128) : ∀ (n i : Nat), s.length - i < n → qEt k s n (i : Int) = some true := by
 intro n
 unfold Sz at hl
 induction n with
 | zero => intro i h; omega
 | succ n ih =>
  intro i h
  rw [g24_l1_s]
  by_cases hi : i < s.length
  ·obtain ⟨b, r, h1, h2, h3, h4⟩ := dcons hi
   refine iT (dT (by omega)) (bS (qKv h1 (hb b h3)) (iF (dF (by omega)) ?_))
   rw [fw_s (by omega)]
   exact ih (i + 1) (by omega)
  ·exact iF (dF (by omega)) rfl
theorem qI6 {k : Nat} {s : List Nat} (hl : Sz s) (hb : ∀ b ∈ s, b < 128) (hk : s.length < k) : g24 k s = some true := ascii_l hl hb k 0 (by omega)
def qFo (k : Nat)  (a0 : (List Nat)) (ih : Int → (List S33) → Option ((List S33) × Int)) : Int → (List S33) → Option ((List S33) × Int) :=
 fun (y5_0 : Int) (y5_1 : (List S33)) => if (decide (y5_0 < (a0.length : Int))) then ((fg26 k a0 y5_0).bind fun x2_2 => if (!decide (x2_2.2 = 0)) then (some (([] : List S33), x2_2.2)) else ((appS 32 y5_1 ([x2_2.1] : List S33)).bind fun x3_3 => (g25 k a0 (fW .i64 (y5_0 + (x2_2.1.f1.length : Int)))).bind fun x4_6 => ih x4_6 x3_3)) else (some (y5_1, (0 : Int)))
def qHy (k : Nat)  (a0 : (List Nat)) (n : Nat) : Int → (List S33) → Option ((List S33) × Int) := lp (fun _ _ => none) (qFo k a0) n
def fg13 (k : Nat) (a0 : (List Nat)) : Option ((List S33) × Int) :=
 if (decide (65536 < (a0.length : Int))) then (some (([] : List S33), (3 : Int))) else ((some true).bind fun x0_1 => if (!x0_1) then (some (([] : List S33), (2 : Int))) else ((g25 k a0 (0 : Int)).bind fun x1_1 => qHy k a0 k x1_1 ([] : List S33)))
theorem qO2 {k : Nat} (hk : 38 ≤ k) {s : List Nat} (hl : Sz s) (hb : ∀ b ∈ s, b < 128) (hs : s.length < k) : g13 k s = fg13 k s := by
 have e : qE1 k s = qFo k s := by
  funext ih y l
  unfold qE1 qFo
  rw [fast_one hk hl]
 have e2 : qGi k s = qHy k s := by
  funext n
  unfold qGi qHy
  rw [e]
 unfold g13 fg13
 rw [qI6 hl hb hs, e2]
def fg17 (k : Nat) (a0 : (List Nat)) : Option (S28 × Int) :=
 (fg13 k a0).bind fun x0_1 => if (!decide (x0_1.2 = 0)) then (some ((⟨(0 : Int), ([] : List Nat), ⟨0, []⟩, false, false, ([] : List (List Nat)), ([] : List (List Nat))⟩ : S28), x0_1.2)) else ((g14 k a0 x0_1.1 (0 : Int) (x0_1.1.length : Int) (0 : Int)).bind fun x1_4 => jn (fun (z2 : Bool) => if z2 then (some ((⟨(0 : Int), ([] : List Nat), ⟨0, []⟩, false, false, ([] : List (List Nat)), ([] : List (List Nat))⟩ : S28), (8 : Int))) else (some ((⟨x1_4.1.f0, x1_4.1.f1, x1_4.1.f2, x1_4.1.f3, x1_4.1.f4, x1_4.1.f5, x1_4.1.f6⟩ : S28), x1_4.2.2))) (fun j2 => if (decide (x1_4.2.2 = 0)) then (j2 (!decide (x1_4.2.1 = (x0_1.1.length : Int)))) else (j2 false)))
theorem qKs {k : Nat} (hk : 38 ≤ k) {s : List Nat} (hl : Sz s) (hb : ∀ b ∈ s, b < 128) (hs : s.length < k) : g17 k s = fg17 k s := by
 unfold g17 fg17
 rw [qO2 hk hl hb hs]
def okT (s : List Nat) : Bool := s.all (fun b => Nat.blt b 128) && Nat.blt s.length 400
theorem okT_spec {s : List Nat} (h : okT s = true) : Sz s ∧ (∀ b ∈ s, b < 128) ∧ s.length < 400 := by
 unfold okT at h
 rw [Bool.and_eq_true] at h
 have h2 : s.length < 400 := Nat.le_of_ble_eq_true h.2
 exact ⟨by unfold Sz; omega, fun b hb => Nat.le_of_ble_eq_true (List.all_eq_true.1 h.1 b hb), h2⟩
abbrev Ri4 : Type := (Int × (List Nat) × Raw × Bool × Bool × (List (List Nat)) × (List (List Nat)) × Int)
abbrev Ti4 : Type := Int → (List Nat) → Raw → Bool → Bool → (List (List Nat)) → (List (List Nat)) → (List Nat) → (List S33) → Int → Int → Option (Option Ri4)
def Pi4 (f : Ti4) : Prop := ∀ (a0 : Int) (a1 : (List Nat)) (a2 : Raw) (a3 : Bool) (a4 : Bool) (a5 : (List (List Nat))) (a6 : (List (List Nat))) (a7 : (List Nat)) (a8 : (List S33)) (a9 : Int) (a10 : Int), ∀ (x : Ri4), f a0 a1 a2 a3 a4 a5 a6 a7 a8 a9 a10 = some (some x) → CallT Try.prog 34 [.ptr 1 4 0, .ptr 0 7 0] (mkH [⟨[.i a0, .str a1, q29 a2, .bool a3, .bool a4, w9 a5, w9 a6], 7, false⟩, ⟨[.str a7, w34 a8, .i a9, .i a10], 4, false⟩]) none (.tuple []) (mkH [⟨[.i x.1, .str x.2.1, q29 x.2.2.1, .bool x.2.2.2.1, .bool x.2.2.2.2.1, w9 x.2.2.2.2.2.1, w9 x.2.2.2.2.2.2.1], 7, false⟩, ⟨[.str a7, w34 a8, .i x.2.2.2.2.2.2.2, .i a10], 4, false⟩])
def Qi4 (f : Ti4) : Prop := ∀ (a0 : Int) (a1 : (List Nat)) (a2 : Raw) (a3 : Bool) (a4 : Bool) (a5 : (List (List Nat))) (a6 : (List (List Nat))) (a7 : (List Nat)) (a8 : (List S33)) (a9 : Int) (a10 : Int) (_h : f a0 a1 a2 a3 a4 a5 a6 a7 a8 a9 a10 = some none), ∃ v, CallT Try.prog 34 [.ptr 1 4 0, .ptr 0 7 0] (mkH [⟨[.i a0, .str a1, q29 a2, .bool a3, .bool a4, w9 a5, w9 a6], 7, false⟩, ⟨[.str a7, w34 a8, .i a9, .i a10], 4, false⟩]) (some (thrown, [1])) v (mkH [⟨[.i a0, .str a1, q29 a2, .bool a3, .bool a4, w9 a5, w9 a6], 7, false⟩, ⟨[.str a7, w34 a8, .i a9, .i a10], 4, false⟩])
def Xi4 (a0 : Int) (a1 : (List Nat)) (a2 : Raw) (a3 : Bool) (a4 : Bool) (a5 : (List (List Nat))) (a6 : (List (List Nat))) (a7 : (List Nat)) (a8 : (List S33)) (a9 : Int) (a10 : Int) : Fx (Option Ri4) := ⟨Try.prog, cx, Try.f34, fun r => match r with | some r => .tuple [] | none => .top, 2, fun r => match r with | some r => (mkH [⟨[.i r.1, .str r.2.1, q29 r.2.2.1, .bool r.2.2.2.1, .bool r.2.2.2.2.1, w9 r.2.2.2.2.2.1, w9 r.2.2.2.2.2.2.1], 7, false⟩, ⟨[.str a7, w34 a8, .i r.2.2.2.2.2.2.2, .i a10], 4, false⟩]) | none => (mkH [⟨[.i a0, .str a1, q29 a2, .bool a3, .bool a4, w9 a5, w9 a6], 7, false⟩, ⟨[.str a7, w34 a8, .i a9, .i a10], 4, false⟩]), cxTi, cxOrd, fun r => match r with | some _ => none | none => some (thrown, [1]), false⟩
def i4p0 : Pt := nav [] (bodyAt Try.f34)
def i4 (k : Nat) (a0 : Int) (a1 : (List Nat)) (a2 : Raw) (a3 : Bool) (a4 : Bool) (a5 : (List (List Nat))) (a6 : (List (List Nat))) (a7 : (List Nat)) (a8 : (List S33)) (a9 : Int) (a10 : Int) : Option (Option Ri4) :=
 bT (i6 k a7 a8 a9 a10) fun x0_1 => some (some (x0_1.1.f0, x0_1.1.f1, x0_1.1.f2, x0_1.1.f3, x0_1.1.f4, x0_1.1.f5, x0_1.1.f6, x0_1.2))
theorem i4_all (k : Nat) (a0 : Int) (a1 : (List Nat)) (a2 : Raw) (a3 : Bool) (a4 : Bool) (a5 : (List (List Nat))) (a6 : (List (List Nat))) (a7 : (List Nat)) (a8 : (List S33)) (a9 : Int) (a10 : Int) (r : (Option Ri4)) (h : i4 k a0 a1 a2 a3 a4 a5 a6 a7 a8 a9 a10 = some r) : CallT Try.prog 34 [.ptr 1 4 0, .ptr 0 7 0] (mkH [⟨[.i a0, .str a1, q29 a2, .bool a3, .bool a4, w9 a5, w9 a6], 7, false⟩, ⟨[.str a7, w34 a8, .i a9, .i a10], 4, false⟩]) ((Xi4 a0 a1 a2 a3 a4 a5 a6 a7 a8 a9 a10).thr r) ((Xi4 a0 a1 a2 a3 a4 a5 a6 a7 a8 a9 a10).enc r) ((Xi4 a0 a1 a2 a3 a4 a5 a6 a7 a8 a9 a10).fin r) := by
 refine qA2 (Xi4 a0 a1 a2 a3 a4 a5 a6 a7 a8 a9 a10) Try.func34 (by kernel_rfl) (by kernel_rfl) rfl (t := i4 k a0 a1 a2 a3 a4 a5 a6 a7 a8 a9 a10) ?_ h
 unfold i4
 refine qA0 (eE := [(0, .ptr 1 4 0), (1, .ptr 0 7 0)]) (by kernel_rfl) ?_
 let Q1 : Blk := ⟨[.i a0, .str a1, q29 a2, .bool a3, .bool a4, w9 a5, w9 a6], 7, false⟩
 refine oH 2 (atN 1 (ctl1 i4p0)) [(3, .ptr 1 4 0), (0, .ptr 1 4 0), (1, .ptr 0 7 0)] (mkH [Q1, ⟨[.str a7, w34 a8, .i a9, .i a10], 4, false⟩]) ?_
 refine oX (fun (x0_1 : (S28 × Int)) => n29 x0_1.1) (fun x0_1 => [Q1, ⟨[.str a7, w34 a8, .i x0_1.2, .i a10], 4, false⟩]) (atN 2 (ctl1 i4p0)) 4 [1] [] [] [1] [] [.ptr 1 4 0] (i6_thr k a7 a8 a9 a10) (i6_ok k a7 a8 a9 a10) trivial (fun _ => trivial) trivial fun x0_1 hx0_1 => ?_
 exact oQF 2 [⟨e29 x0_1.1, 7, false⟩, ⟨[.str a7, w34 a8, .i x0_1.2, .i a10], 4, false⟩] 2 [] [] (.tuple []) .ps trivial
theorem i4_ok (k : Nat) : Pi4 (i4 k) := fun a0 a1 a2 a3 a4 a5 a6 a7 a8 a9 a10 x h => i4_all k a0 a1 a2 a3 a4 a5 a6 a7 a8 a9 a10 (some x) h
theorem i4_thr (k : Nat) : Qi4 (i4 k) := fun a0 a1 a2 a3 a4 a5 a6 a7 a8 a9 a10 h => ⟨_, i4_all k a0 a1 a2 a3 a4 a5 a6 a7 a8 a9 a10 none h⟩
abbrev Ri1 : Type := (Int × Int × (List (List Nat)) × Int × (List Nat) × Raw × Bool × Bool × (List (List Nat)))
abbrev Ti1 : Type := (List Nat) → (List S33) → Int → Int → Int → (List Nat) → Raw → Bool → Bool → (List (List Nat)) → (List (List Nat)) → Option Ri1
def Pi1 (f : Ti1) : Prop := ∀ (a0 : (List Nat)) (a1 : (List S33)) (a2 : Int) (a3 : Int) (a4 : Int) (a5 : (List Nat)) (a6 : Raw) (a7 : Bool) (a8 : Bool) (a9 : (List (List Nat))) (a10 : (List (List Nat))), ∀ (x : Ri1), f a0 a1 a2 a3 a4 a5 a6 a7 a8 a9 a10 = some x → CallT Try.prog 27 [.str a0, w34 a1, .i a2, .i a3, .func 34 [] [.ptr 0 7 0]] (mkH [⟨[.i a4, .str a5, q29 a6, .bool a7, .bool a8, w9 a9, w9 a10], 7, false⟩]) none (.tuple [.i x.1, .i x.2.1]) (mkH [⟨[.i x.2.2.2.1, .str x.2.2.2.2.1, q29 x.2.2.2.2.2.1, .bool x.2.2.2.2.2.2.1, .bool x.2.2.2.2.2.2.2.1, w9 x.2.2.2.2.2.2.2.2, w9 x.2.2.1], 7, false⟩])
def Xi1 (a0 : (List Nat)) (a1 : (List S33)) (a2 : Int) (a3 : Int) (a4 : Int) (a5 : (List Nat)) (a6 : Raw) (a7 : Bool) (a8 : Bool) (a9 : (List (List Nat))) (a10 : (List (List Nat))) : Fx Ri1 := ⟨Try.prog, cx, Try.f27, fun r => .tuple [.i r.1, .i r.2.1], 1, fun r => (mkH [⟨[.i r.2.2.2.1, .str r.2.2.2.2.1, q29 r.2.2.2.2.2.1, .bool r.2.2.2.2.2.2.1, .bool r.2.2.2.2.2.2.2.1, w9 r.2.2.2.2.2.2.2.2, w9 r.2.2.1], 7, false⟩]), cxTi, cxOrd, fun _ => none, true⟩
def i1p0 : Pt := nav [0] (bodyAt Try.f27)
def i1p1 : Pt := nav [0, 0, 0, 0] i1p0
def i1p2 : Pt := nav [0, 0] i1p1
def i1p4 : Pt := nav [2, 0, 0] i1p2
def i1p6 : Pt := nav [0, 0, 0] i1p4
def i1p7 : Pt := nav [0, 0, 0] i1p6
def i1d27p0 : Pt := nav [0] (restAt Try.f46)
def i1d27p1 : Pt := nav [0, 0] i1d27p0
def i1d27p2 : Pt := nav [1, 0, 0] i1d27p1
def i1d27p4 : Pt := nav [0, 0, 0] i1d27p2
def i1 (k : Nat) (a0 : (List Nat)) (a1 : (List S33)) (a2 : Int) (a3 : Int) (a4 : Int) (a5 : (List Nat)) (a6 : Raw) (a7 : Bool) (a8 : Bool) (a9 : (List (List Nat))) (a10 : (List (List Nat))) : Option Ri1 :=
 jn (fun (z1 : Bool) => if z1 then (some ((0 : Int), (8 : Int), a10, a4, a5, a6, a7, a8, a9)) else (cT (i4 k a4 a5 a6 a7 a8 a9 a10 a0 a1 a2 a3) (some ((0 : Int), (8 : Int), a10, a4, a5, a6, a7, a8, a9)) fun x0_2 => some (x0_2.2.2.2.2.2.2.2, (0 : Int), x0_2.2.2.2.2.2.2.1, x0_2.1, x0_2.2.1, x0_2.2.2.1, x0_2.2.2.2.1, x0_2.2.2.2.2.1, x0_2.2.2.2.2.2.1))) (fun j1 => if (decide (a2 < 0)) then (j1 true) else (if (decide ((a1.length : Int) < a3)) then (j1 true) else (j1 (decide (a3 < a2)))))
theorem i1_all (k : Nat) (a0 : (List Nat)) (a1 : (List S33)) (a2 : Int) (a3 : Int) (a4 : Int) (a5 : (List Nat)) (a6 : Raw) (a7 : Bool) (a8 : Bool) (a9 : (List (List Nat))) (a10 : (List (List Nat))) (r : Ri1) (h : i1 k a0 a1 a2 a3 a4 a5 a6 a7 a8 a9 a10 = some r) : CallT Try.prog 27 [.str a0, w34 a1, .i a2, .i a3, .func 34 [] [.ptr 0 7 0]] (mkH [⟨[.i a4, .str a5, q29 a6, .bool a7, .bool a8, w9 a9, w9 a10], 7, false⟩]) ((Xi1 a0 a1 a2 a3 a4 a5 a6 a7 a8 a9 a10).thr r) ((Xi1 a0 a1 a2 a3 a4 a5 a6 a7 a8 a9 a10).enc r) ((Xi1 a0 a1 a2 a3 a4 a5 a6 a7 a8 a9 a10).fin r) := by
 refine qA2 (Xi1 a0 a1 a2 a3 a4 a5 a6 a7 a8 a9 a10) Try.func27 (by kernel_rfl) (by kernel_rfl) rfl (t := i1 k a0 a1 a2 a3 a4 a5 a6 a7 a8 a9 a10) ?_ h
 unfold i1
 refine qA0 (eE := [(0, .str a0), (1, w34 a1), (2, .i a2), (3, .i a3), (4, .func 34 [] [.ptr 0 7 0])]) (by kernel_rfl) ?_
 let E1 : Env := [(15, .bool (decide (a2 < 0))), (14, .bool (decide (a2 < 0))), (13, .i a2), (11, .ptr 2 1 0), (10, .ptr 1 1 0), (0, .str a0), (1, w34 a1), (2, .i a2), (3, .i a3), (4, .func 34 [] [.ptr 0 7 0])]
 let Q1 : Blk := ⟨[.i a4, .str a5, q29 a6, .bool a7, .bool a8, w9 a9, w9 a10], 7, false⟩
 let K1 : List Blk := [Q1, ⟨[.i 0], 0, false⟩, ⟨[.i 0], 0, false⟩]
 refine oH 11 (atN 3 (ctl1 i1p1)) E1 (mkH K1) ?_
 refine oJ i1p2 (fun (z1 : Bool) => [(0, .str a0), (1, w34 a1), (2, .i a2), (3, .i a3), (4, .func 34 [] [.ptr 0 7 0]), (10, .ptr 1 1 0), (11, .ptr 2 1 0), (25, .bool z1)]) (fun (z1 : Bool) => (mkH K1)) (fun z1 => ?_) (fun j1 hj1 => ?_)
 ·refine oS 25 (fun hb => ?_) (fun hb => ?_)
  ·let E2 : Env := [(25, .bool true), (0, .str a0), (1, w34 a1), (2, .i a2), (3, .i a3), (4, .func 34 [] [.ptr 0 7 0]), (10, .ptr 1 1 0), (11, .ptr 2 1 0), (25, .bool z1)]
   exact oQF 7 [Q1, ⟨[.i 0], 1, false⟩, ⟨[.i 8], 1, false⟩] 1 [] [.i 0, .i 8] (.tuple [.i 0, .i 8]) .ps trivial
  ·let E4 : Env := [(4, .func 34 [] [.ptr 0 7 0]), (10, .ptr 1 1 0), (11, .ptr 2 1 0), (12, .ptr 3 4 0)]
   let K2 : List Blk := [Q1, ⟨[.i 0], 0, false⟩, ⟨[.i 0], 0, false⟩, ⟨[.str a0, w34 a1, .i a2, .i a3], 0, false⟩]
   refine oLH 13 i1p6 E4 (mkH K2) ?_
   refine oR 2 (atN 1 (ctl1 i1p6)) ((32, .func 46 [] [.ptr 1 1 0, .ptr 2 1 0]) :: E4) ?_
   refine qIi (f := 46) (caps := [.ptr 1 1 0, .ptr 2 1 0]) (by kernel_rfl) ?_
   refine okD_at (p' := (atN 2 (ctl1 i1p6))) (by kernel_rfl) ?_
   refine qDy 5 (p' := (atN 2 (ctl1 i1p7))) (eE := ((34, .ptr 3 4 0) :: (33, .func 34 [] [.ptr 0 7 0]) :: (32, .func 46 [] [.ptr 1 1 0, .ptr 2 1 0]) :: E4)) (H' := (mkH K2)) (by kernel_rfl) ?_
   let Q3 : Blk := ⟨[.str a0, w34 a1, .i a2, .i a3], 4, false⟩
   let K3 : List Blk := [Q1, ⟨[.i 0], 0, false⟩, ⟨[.i 0], 0, false⟩, Q3]
   let K4 : List Blk := [Q1, ⟨[.i 0], 1, false⟩, ⟨[.i 8], 1, false⟩, Q3]
   refine qIk (tv := thrown) (D := [3]) (rc := ((0 : Int), (8 : Int), a10, a4, a5, a6, a7, a8, a9)) (tc := some ((0 : Int), (8 : Int), a10, a4, a5, a6, a7, a8, a9)) (xs := [.i 0, .i 8]) (v := .tuple [.i 0, .i 8]) (fi := 34) (args := [.ptr 3 4 0, .ptr 0 7 0]) (fun (x0_2 : Ri4) => .tuple []) (fun (x0_2 : Ri4) => (mkH [⟨[.i x0_2.1, .str x0_2.2.1, q29 x0_2.2.2.1, .bool x0_2.2.2.2.1, .bool x0_2.2.2.2.2.1, w9 x0_2.2.2.2.2.2.1, w9 x0_2.2.2.2.2.2.2.1], 7, false⟩, ⟨[.i 0], 0, false⟩, ⟨[.i 0], 0, false⟩, ⟨[.str a0, w34 a1, .i x0_2.2.2.2.2.2.2.2, .i a3], 4, false⟩])) (atN 3 (ctl1 i1p7)) (fun x0_2 => [(35, .tuple []), (34, .ptr 3 4 0), (33, .func 34 [] [.ptr 0 7 0]), (32, .func 46 [] [.ptr 1 1 0, .ptr 2 1 0]), (4, .func 34 [] [.ptr 0 7 0]), (10, .ptr 1 1 0), (11, .ptr 2 1 0), (12, .ptr 3 4 0)]) K3 [Q1] [⟨[.i 0], 1, false⟩, ⟨[.i 8], 1, false⟩, Q3] [(10, .ptr 1 1 0), (11, .ptr 2 1 0)] [10, 11] 3 rfl rfl (by kernel_rfl) (fun h => frS 0 (M := K3) (rs := [0, 3]) (ms := []) (mv := []) (mm := []) (D := [3]) (xs' := [.ptr 3 4 0, .ptr 0 7 0]) (.refl) (i4_thr k a4 a5 a6 a7 a8 a9 a10 a0 a1 a2 a3 h) trivial trivial (by kernel_rfl)) (by kernel_rfl) (by kernel_rfl) (by kernel_rfl) (by kernel_rfl) (qDl (⟨Try.prog, cx, Try.f46, fun _ => .tuple [], 4, fun _ => (mkH K4), cxTi, cxOrd, fun _ => none, false⟩ : Fx Unit) 5 2 (x := .iface 72 (.agg [])) qEe (by kernel_rfl) (by kernel_rfl) (by kernel_rfl) rfl rfl rfl rfl ?_) rfl (by kernel_rfl) (by kernel_rfl) (by kernel_rfl) (.pures (by kernel_rfl)) ⟨(by kernel_rfl), trivial⟩ (by kernel_rfl) (by kernel_rfl) (fun x0_2 h => frW 0 K3 (rs := [0, 3]) (ms := []) (ms' := []) (mv := []) (xs' := [.ptr 3 4 0, .ptr 0 7 0]) (.refl) (i4_ok k a4 a5 a6 a7 a8 a9 a10 a0 a1 a2 a3 x0_2 h) trivial trivial (by kernel_rfl)) (fun _ => by kernel_rfl) (fun x0_2 hx0_2 => ?_)
   ·refine oE [(2, .iface 72 (.agg [])), (5, .iface 72 (.agg [])), (0, .ptr 1 1 0), (1, .ptr 2 1 0)] ?_
    let E1 : Env := [(4, .bool true), (3, .ptr 4 0 0), (12, .bool true), (11, .agg []), (8, .tuple [.agg [], .bool true]), (10, .tuple [.agg [], .bool true]), (9, .iface 72 (.agg [])), (7, .bool true), (6, .iface 72 (.agg [])), (2, .iface 72 (.agg [])), (5, .iface 72 (.agg [])), (0, .ptr 1 1 0), (1, .ptr 2 1 0)]
    let E2 : Env := [(0, .ptr 1 1 0), (1, .ptr 2 1 0), (2, .iface 72 (.agg [])), (4, .bool true)]
    refine oLH 19 i1d27p4 E2 (mkH [Q1, ⟨[.i 0], 0, false⟩, ⟨[.i 0], 0, false⟩, Q3, ⟨[], 0, false⟩]) ?_
    refine oH 10 .fin ((14, .bool false) :: (13, .bool true) :: E2) (mkH [Q1, ⟨[.i 0], 1, false⟩, ⟨[.i 8], 1, false⟩, Q3, ⟨[], 0, false⟩]) ?_
    refine qAc K4 [⟨[], 0, false⟩] (by kernel_rfl) rfl (by kernel_rfl) ⟨(by kernel_rfl), ⟨(by kernel_rfl), ⟨(by kernel_rfl), ⟨(by kernel_rfl), trivial⟩⟩⟩⟩ ?_
    exact qF8 (r := ()) (xs := []) (by kernel_rfl) (by kernel_rfl) (by kernel_rfl) (by kernel_rfl)
   ·let Q4 : Blk := ⟨[.i x0_2.1, .str x0_2.2.1, q29 x0_2.2.2.1, .bool x0_2.2.2.2.1, .bool x0_2.2.2.2.2.1, w9 x0_2.2.2.2.2.2.1, w9 x0_2.2.2.2.2.2.2.1], 7, false⟩
    let Q5 : Blk := ⟨[.i x0_2.2.2.2.2.2.2.2], 1, false⟩
    let Q6 : Blk := ⟨[.str a0, w34 a1, .i x0_2.2.2.2.2.2.2.2, .i a3], 4, false⟩
    refine qDy 11 (p' := .fin) (eE := ((39, .i x0_2.2.2.2.2.2.2.2) :: (38, .ptr 3 4 2) :: (37, .ptr 3 4 0) :: (36, .ptr 3 4 0) :: (35, .tuple []) :: (34, .ptr 3 4 0) :: (33, .func 34 [] [.ptr 0 7 0]) :: (32, .func 46 [] [.ptr 1 1 0, .ptr 2 1 0]) :: E4)) (H' := (mkH [Q4, Q5, ⟨[.i 0], 1, false⟩, Q6])) (by kernel_rfl) ?_
    refine qLp (r := (x0_2.2.2.2.2.2.2.2, (0 : Int), x0_2.2.2.2.2.2.2.1, x0_2.1, x0_2.2.1, x0_2.2.2.1, x0_2.2.2.2.1, x0_2.2.2.2.2.1, x0_2.2.2.2.2.2.1)) (xs := [.i x0_2.2.2.2.2.2.2.2, .i 0]) (v := .tuple [.i x0_2.2.2.2.2.2.2.2, .i 0]) [Q4, Q5, ⟨[.i 0], 1, false⟩, Q6] [Q4] [Q5, ⟨[.i 0], 1, false⟩, Q6] rfl rfl (qDl (⟨Try.prog, cx, Try.f46, fun _ => .tuple [], 4, fun _ => (mkH [Q4, Q5, ⟨[.i 0], 1, false⟩, Q6]), cxTi, cxOrd, fun _ => none, false⟩ : Fx Unit) 5 2 (x := .nili) qIm (by kernel_rfl) (by kernel_rfl) (by kernel_rfl) rfl rfl rfl rfl ?_) (by kernel_rfl) (by kernel_rfl) (by kernel_rfl) (by kernel_rfl) (.pures (by kernel_rfl)) ⟨(by kernel_rfl), trivial⟩ (by kernel_rfl) (by kernel_rfl)
    let E1 : Env := [(7, .bool false), (6, .nili), (2, .nili), (5, .nili), (0, .ptr 1 1 0), (1, .ptr 2 1 0)]
    refine oH 7 .fin E1 (mkH [Q4, Q5, ⟨[.i 0], 1, false⟩, Q6]) ?_
    exact qF8 (r := ()) (xs := []) (by kernel_rfl) (by kernel_rfl) (by kernel_rfl) (by kernel_rfl)
 ·refine oS 15 (fun hb => ?_) (fun hb => ?_)
  ·refine oLH 11 i1p2 [(0, .str a0), (1, w34 a1), (2, .i a2), (3, .i a3), (4, .func 34 [] [.ptr 0 7 0]), (10, .ptr 1 1 0), (11, .ptr 2 1 0), (25, .bool true)] (mkH K1) ?_
   exact hj1 true
  ·let E8 : Env := ((21, .bool (decide ((a1.length : Int) < a3))) :: (20, .bool (decide ((a1.length : Int) < a3))) :: (19, .bool (decide ((a1.length : Int) < a3))) :: (18, .i (a1.length : Int)) :: (17, w34 a1) :: (16, .i a3) :: (15, .bool false) :: E1)
   refine oH 6 (atN 9 (ctl1 i1p1)) E8 (mkH K1) ?_
   refine oS 21 (fun hb => ?_) (fun hb => ?_)
   ·refine oR 5 i1p2 ((25, .bool true) :: (24, .tuple []) :: (23, .tuple []) :: (22, .tuple []) :: (21, .bool true) :: E8) ?_
    refine oK [0, 1, 2, 3, 4, 10, 11, 25] [(0, .str a0), (1, w34 a1), (2, .i a2), (3, .i a3), (4, .func 34 [] [.ptr 0 7 0]), (10, .ptr 1 1 0), (11, .ptr 2 1 0), (25, .bool true)] ?_
    exact hj1 true
   ·refine oL 5 i1p2 [(0, .str a0), (1, w34 a1), (2, .i a2), (3, .i a3), (4, .func 34 [] [.ptr 0 7 0]), (10, .ptr 1 1 0), (11, .ptr 2 1 0), (25, .bool (decide (a3 < a2)))] ?_
    exact hj1 (decide (a3 < a2))
theorem i1_ok (k : Nat) : Pi1 (i1 k) := fun a0 a1 a2 a3 a4 a5 a6 a7 a8 a9 a10 x h => i1_all k a0 a1 a2 a3 a4 a5 a6 a7 a8 a9 a10 x h
def Xg23 : Fx (S28 × Int × Int) := ⟨Try.prog, cx, Try.f23, fun r => .tuple [.agg [.i r.1.f0, .str r.1.f1, q29 r.1.f2, .bool r.1.f3, .bool r.1.f4, w9 r.1.f5, w9 r.1.f6], .i r.2.1, .i r.2.2], 0, fun _ => H0, cxTi, cxOrd, fun _ => none, false⟩
def g23p0 : Pt := nav [0] (bodyAt Try.f23)
def g23p1 : Pt := nav [0, 0, 0] g23p0
def g23p2 : Pt := nav [0, 0, 0] g23p1
def g23p3 : Pt := nav [0, 0, 0] g23p2
def g23 (k : Nat) (a0 : (List Nat)) (a1 : (List S33)) (a2 : Int) (a3 : Int) : Option (S28 × Int × Int) :=
 (i1 k a0 a1 a2 a3 (0 : Int) ([] : List Nat) (⟨(([] : List S28)).length, (([] : List S28)).flatMap e29⟩ : Raw) false false ([] : List (List Nat)) ([] : List (List Nat))).bind fun x0_5 => (g30 k (⟨x0_5.2.2.2.1, x0_5.2.2.2.2.1, x0_5.2.2.2.2.2.1, x0_5.2.2.2.2.2.2.1, x0_5.2.2.2.2.2.2.2.1, x0_5.2.2.2.2.2.2.2.2, x0_5.2.2.1⟩ : S28) x0_5.2.1).bind fun x1_2 => some ((⟨x1_2.f0, x1_2.f1, x1_2.f2, x1_2.f3, x1_2.f4, x1_2.f5, x1_2.f6⟩ : S28), x0_5.1, x0_5.2.1)
theorem g23_ok (k : Nat) (a0 : (List Nat)) (a1 : (List S33)) (a2 : Int) (a3 : Int) (r : (S28 × Int × Int)) (h : g23 k a0 a1 a2 a3 = some r) : PureOk Try.prog 23 [.str a0, w34 a1, .i a2, .i a3] (.tuple [.agg [.i r.1.f0, .str r.1.f1, q29 r.1.f2, .bool r.1.f3, .bool r.1.f4, w9 r.1.f5, w9 r.1.f6], .i r.2.1, .i r.2.2]) := by
 refine qA5 Xg23 (fun _ => ⟨rfl, rfl⟩) Try.func23 (by decide +kernel) (by kernel_rfl) (t := g23 k a0 a1 a2 a3) ?_ h
 unfold g23
 refine qA0 (eE := [(0, .str a0), (1, w34 a1), (2, .i a2), (3, .i a3)]) (by kernel_rfl) ?_
 let E1 : Env := [(11, .ptr 1 7 0), (10, .i 0), (9, .i 0), (8, .ptr 0 7 0), (0, .str a0), (1, w34 a1), (2, .i a2), (3, .i a3)]
 let Q1 : Blk := ⟨[.i 0, .str [], .nils, .bool false, .bool false, .nils, .nils], 0, false⟩
 refine oH 11 g23p2 E1 (mkH [Q1, Q1]) ?_
 refine qCt [Q1, Q1] 1 0 [.i 0, .str [], .nils, .bool false, .bool false, .nils, .nils] [.i 0, .str [], w29 ([] : List S28), .bool false, .bool false, w9 ([] : List (List Nat)), w9 ([] : List (List Nat))] (by kernel_rfl) rfl (.cons (.cons (.nil (.cons (.cons (.nil (.nil (.refl)))))))) ?_
 let E2 : Env := ((19, .func 34 [] [.ptr 1 7 0]) :: (18, .i a3) :: (17, .i a2) :: (16, w34 a1) :: (15, .str a0) :: E1)
 refine oH 6 (atN 5 (ctl1 g23p2)) E2 (mkH [Q1, ⟨[.i 0, .str [], w29 ([] : List S28), .bool false, .bool false, w9 ([] : List (List Nat)), w9 ([] : List (List Nat))], 0, false⟩]) ?_
 refine qFa (fun (x0_5 : Ri1) => .tuple [.i x0_5.1, .i x0_5.2.1]) (fun (x0_5 : Ri1) => (mkH [Q1, ⟨[.i x0_5.2.2.2.1, .str x0_5.2.2.2.2.1, q29 x0_5.2.2.2.2.2.1, .bool x0_5.2.2.2.2.2.2.1, .bool x0_5.2.2.2.2.2.2.2.1, w9 x0_5.2.2.2.2.2.2.2.2, w9 x0_5.2.2.1], 7, false⟩])) (atN 6 (ctl1 g23p2)) (fun x0_5 => ((20, .tuple [.i x0_5.1, .i x0_5.2.1]) :: E2)) (fi := 27) (args := [.str a0, w34 a1, .i a2, .i a3, .func 34 [] [.ptr 1 7 0]]) (by kernel_rfl) (fun x0_5 h => frW 0 [Q1, ⟨[.i 0, .str [], w29 ([] : List S28), .bool false, .bool false, w9 ([] : List (List Nat)), w9 ([] : List (List Nat))], 7, false⟩] (rs := [1]) (ms := []) (ms' := []) (mv := []) (xs' := [.str a0, w34 a1, .i a2, .i a3, .func 34 [] [.ptr 1 7 0]]) (.refl) (i1_ok k a0 a1 a2 a3 (0 : Int) ([] : List Nat) (⟨(([] : List S28)).length, (([] : List S28)).flatMap e29⟩ : Raw) false false ([] : List (List Nat)) ([] : List (List Nat)) x0_5 h) trivial trivial (by kernel_rfl)) (fun _ => by kernel_rfl) (fun x0_5 hx0_5 => ?_)
 let E4 : Env := [(8, .ptr 0 7 0), (11, .ptr 1 7 0), (12, .i x0_5.1), (13, .i x0_5.2.1)]
 refine oLH 7 g23p3 E4 (mkH [Q1, ⟨[.i x0_5.2.2.2.1, .str x0_5.2.2.2.2.1, q29 x0_5.2.2.2.2.2.1, .bool x0_5.2.2.2.2.2.2.1, .bool x0_5.2.2.2.2.2.2.2.1, w9 x0_5.2.2.2.2.2.2.2.2, w9 x0_5.2.2.1], 7, false⟩]) ?_
 refine oR 3 (atN 2 (ctl1 g23p3)) ((24, .i x0_5.2.1) :: (23, .agg [.i x0_5.2.2.2.1, .str x0_5.2.2.2.2.1, q29 x0_5.2.2.2.2.2.1, .bool x0_5.2.2.2.2.2.2.1, .bool x0_5.2.2.2.2.2.2.2.1, w9 x0_5.2.2.2.2.2.2.2.2, w9 x0_5.2.2.1]) :: E4) ?_
 refine oA (fun (x1_2 : S28) => n29 x1_2) (atN 3 (ctl1 g23p3)) 25 [.agg [.i x0_5.2.2.2.1, .str x0_5.2.2.2.2.1, q29 x0_5.2.2.2.2.2.1, .bool x0_5.2.2.2.2.2.2.1, .bool x0_5.2.2.2.2.2.2.2.1, w9 x0_5.2.2.2.2.2.2.2.2, w9 x0_5.2.2.1], .i x0_5.2.1] (g30_ok k (⟨x0_5.2.2.2.1, x0_5.2.2.2.2.1, x0_5.2.2.2.2.2.1, x0_5.2.2.2.2.2.2.1, x0_5.2.2.2.2.2.2.2.1, x0_5.2.2.2.2.2.2.2.2, x0_5.2.2.1⟩ : S28) x0_5.2.1) fun x1_2 hx1_2 => ?_
 exact oQ 7
def Xg16 : Fx Bool := ⟨Try.prog, cx, Try.f16, fun r => .bool r, 0, fun _ => H0, cxTi, cxOrd, fun _ => none, false⟩
def g16c0 : List Nat := [97, 32, 43, 32, 98, 32, 42, 32, 99]
def g16c1 : List S33 := [(⟨(1 : Int), ([120] : List Nat), (0 : Int)⟩ : S33), (⟨(9 : Int), ([44] : List Nat), (1 : Int)⟩ : S33), (⟨(1 : Int), ([121] : List Nat), (4 : Int)⟩ : S33)]
def g16p0 : Pt := nav [0] (bodyAt Try.f16)
def g16p1 : Pt := nav [0, 0, 0] g16p0
def g16p2 : Pt := nav [0, 0, 0] g16p1
def g16p3 : Pt := nav [0, 0, 0] g16p2
def g16p4 : Pt := nav [0, 0, 0] g16p3
def g16p5 : Pt := nav [0, 0, 0] g16p4
def g16p6 : Pt := nav [0, 0, 0] g16p5
def g16 (k : Nat)  : Option Bool :=
 (g13 k g16c0).bind fun x0_1 => (g14 k g16c0 x0_1.1 (0 : Int) (x0_1.1.length : Int) (0 : Int)).bind fun x1_4 => (g14 k g16c0 x0_1.1 (0 : Int) (2 : Int) (0 : Int)).bind fun x2_2 => (g23 k ([120, 44, 10, 10, 121] : List Nat) g16c1 (0 : Int) (3 : Int)).bind fun x3_4 => if (decide (x0_1.2 = 0)) then (if (decide (x1_4.2.2 = 0)) then (if (decide (x1_4.2.1 = 5)) then (if (decide (x1_4.1.f0 = 14)) then (if (eqL x1_4.1.f1 [43]) then (if (decide ((x1_4.1.f2.n : Int) = 2)) then ((nthR d29 7 x1_4.1.f2.n x1_4.1.f2.cells 1).bind fun x4_29 => if (eqL x4_29.f1 [42]) then (if (decide (x2_2.2.2 = 8)) then (if (decide (x3_4.2.2 = 0)) then (if (decide ((x3_4.1.f2.n : Int) = 2)) then ((nthR d29 7 x3_4.1.f2.n x3_4.1.f2.cells 1).bind fun x4_51 => some x4_51.f4) else (some false)) else (some false)) else (some false)) else (some false)) else (some false)) else (some false)) else (some false)) else (some false)) else (some false)) else (some false)
theorem g16_ok (k : Nat)  (r : Bool) (h : g16 k  = some r) : PureOk Try.prog 16 [] (.bool r) := by
 refine qA5 Xg16 (fun _ => ⟨rfl, rfl⟩) Try.func16 (by decide +kernel) (by kernel_rfl) (t := g16 k ) ?_ h
 unfold g16
 refine qA0 (eE := []) (by kernel_rfl) ?_
 refine oH 11 (atN 1 (ctl1 g16p2)) [(14, .str g16c0), (1, .str g16c0), (0, .bool false)] (mkH []) ?_
 refine oA (fun (x0_1 : ((List S33) × Int)) => .tuple [w34 x0_1.1, .i x0_1.2]) (atN 2 (ctl1 g16p2)) 15 [.str g16c0] (g13_ok k g16c0) fun x0_1 hx0_1 => ?_
 refine oR 12 (atN 4 (ctl1 g16p3)) [(22, .i (x0_1.1.length : Int)), (21, w34 x0_1.1), (20, w34 x0_1.1), (19, .str g16c0), (3, .i x0_1.2), (2, w34 x0_1.1), (17, .i x0_1.2), (16, w34 x0_1.1), (13, .tuple [w34 x0_1.1, .i x0_1.2]), (15, .tuple [w34 x0_1.1, .i x0_1.2]), (14, .str g16c0), (1, .str g16c0), (0, .bool false)] ?_
 refine oA (fun (x1_4 : (S28 × Int × Int)) => .tuple [n29 x1_4.1, .i x1_4.2.1, .i x1_4.2.2]) (atN 5 (ctl1 g16p3)) 23 [.str g16c0, w34 x0_1.1, .i 0, .i (x0_1.1.length : Int), .i 0] (qNy k g16c0 x0_1.1 (0 : Int) (x0_1.1.length : Int) (0 : Int)) fun x1_4 hx1_4 => ?_
 let E3 : Env := [(1, .str g16c0), (2, w34 x0_1.1), (3, .i x0_1.2), (4, .ptr 0 7 0), (5, .i x1_4.2.1), (6, .i x1_4.2.2)]
 refine oLH 10 g16p4 E3 (mkH [⟨e29 x1_4.1, 7, false⟩]) ?_
 refine oR 3 (atN 2 (ctl1 g16p4)) ((29, w34 x0_1.1) :: (28, .str g16c0) :: E3) ?_
 refine oA (fun (x2_2 : (S28 × Int × Int)) => .tuple [n29 x2_2.1, .i x2_2.2.1, .i x2_2.2.2]) (atN 3 (ctl1 g16p4)) 30 [.str g16c0, w34 x0_1.1, .i 0, .i 2, .i 0] (qNy k g16c0 x0_1.1 (0 : Int) (2 : Int) (0 : Int)) fun x2_2 hx2_2 => ?_
 let E5 : Env := [(3, .i x0_1.2), (4, .ptr 0 7 0), (5, .i x1_4.2.1), (6, .i x1_4.2.2), (9, .i x2_2.2.2)]
 refine oLH 10 g16p5 E5 (mkH [⟨e29 x1_4.1, 7, false⟩, ⟨e29 x2_2.1, 7, false⟩]) ?_
 refine oH 5 (atN 4 (ctl1 g16p5)) ((38, .slice 2 9 0 3 3) :: (37, .agg [.i 1, .str [121], .i 4]) :: (36, .agg [.i 9, .str [44], .i 1]) :: (35, .agg [.i 1, .str [120], .i 0]) :: E5) (mkH [⟨e29 x1_4.1, 7, false⟩, ⟨e29 x2_2.1, 7, false⟩, ⟨[.i 1, .str [120], .i 0, .i 9, .str [44], .i 1, .i 1, .str [121], .i 4], 0, false⟩]) ?_
 refine oZ 38 2 3 3 [.i 1, .str [120], .i 0, .i 9, .str [44], .i 1, .i 1, .str [121], .i 4] [3, 4, 5, 6, 9, 35, 36, 37] [] trivial ?_
 refine oE [(38, w34 g16c1), (3, .i x0_1.2), (4, .ptr 0 7 0), (5, .i x1_4.2.1), (6, .i x1_4.2.2), (9, .i x2_2.2.2), (35, .agg [.i 1, .str [120], .i 0]), (36, .agg [.i 9, .str [44], .i 1]), (37, .agg [.i 1, .str [121], .i 4])] ?_
 refine oHp (mkH [⟨e29 x1_4.1, 7, false⟩, ⟨e29 x2_2.1, 7, false⟩, ⟨[], 0, false⟩]) ?_
 refine oA (fun (x3_4 : (S28 × Int × Int)) => .tuple [n29 x3_4.1, .i x3_4.2.1, .i x3_4.2.2]) (atN 5 (ctl1 g16p5)) 39 [.str [120, 44, 10, 10, 121], w34 g16c1, .i 0, .i 3] (g23_ok k ([120, 44, 10, 10, 121] : List Nat) g16c1 (0 : Int) (3 : Int)) fun x3_4 hx3_4 => ?_
 let E7 : Env := [(3, .i x0_1.2), (4, .ptr 0 7 0), (5, .i x1_4.2.1), (6, .i x1_4.2.2), (9, .i x2_2.2.2), (10, .ptr 3 7 0), (12, .i x3_4.2.2)]
 let K1 : List Blk := [⟨e29 x1_4.1, 7, false⟩, ⟨e29 x2_2.1, 7, false⟩, ⟨[], 0, false⟩, ⟨e29 x3_4.1, 7, false⟩]
 refine oLH 10 g16p6 E7 (mkH K1) ?_
 refine oR 4 (atN 3 (ctl1 g16p6)) ((45, .bool (decide (x0_1.2 = 0))) :: (44, .bool (decide (x0_1.2 = 0))) :: (43, .i x0_1.2) :: E7) ?_
 refine oS 45 (fun hb => ?_) (fun hb => ?_)
 ·let E8 : Env := ((49, .bool (decide (x1_4.2.2 = 0))) :: (48, .bool (decide (x1_4.2.2 = 0))) :: (47, .bool (decide (x1_4.2.2 = 0))) :: (46, .i x1_4.2.2) :: (45, .bool true) :: (45, .bool (decide (x0_1.2 = 0))) :: (44, .bool (decide (x0_1.2 = 0))) :: (43, .i x0_1.2) :: E7)
  refine oR 4 (atN 7 (ctl1 g16p6)) E8 ?_
  refine oS 49 (fun hb => ?_) (fun hb => ?_)
  ·let E9 : Env := ((53, .bool (decide (x1_4.2.1 = 5))) :: (52, .bool (decide (x1_4.2.1 = 5))) :: (51, .bool (decide (x1_4.2.1 = 5))) :: (50, .i x1_4.2.1) :: (49, .bool true) :: E8)
   refine oR 4 (atN 11 (ctl1 g16p6)) E9 ?_
   refine oS 53 (fun hb => ?_) (fun hb => ?_)
   ·let E10 : Env := ((58, .bool (decide (x1_4.1.f0 = 14))) :: (57, .bool (decide (x1_4.1.f0 = 14))) :: (56, .bool (decide (x1_4.1.f0 = 14))) :: (55, .i x1_4.1.f0) :: (54, .ptr 0 7 0) :: (53, .bool true) :: E9)
    refine oR 5 (atN 16 (ctl1 g16p6)) E10 ?_
    refine oS 58 (fun hb => ?_) (fun hb => ?_)
    ·let E11 : Env := ((63, .bool (eqL x1_4.1.f1 [43])) :: (62, .bool (eqL x1_4.1.f1 [43])) :: (61, .bool (eqL x1_4.1.f1 [43])) :: (60, .str x1_4.1.f1) :: (59, .ptr 0 7 1) :: (58, .bool true) :: E10)
     refine oR 5 (atN 21 (ctl1 g16p6)) E11 ?_
     refine oS 63 (fun hb => ?_) (fun hb => ?_)
     ·let E12 : Env := ((69, .bool (decide ((x1_4.1.f2.n : Int) = 2))) :: (68, .bool (decide ((x1_4.1.f2.n : Int) = 2))) :: (67, .bool (decide ((x1_4.1.f2.n : Int) = 2))) :: (66, .i (x1_4.1.f2.n : Int)) :: (65, q29 x1_4.1.f2) :: (64, .ptr 0 7 2) :: (63, .bool true) :: E11)
      refine oR 6 (atN 27 (ctl1 g16p6)) E12 ?_
      refine oS 69 (fun hb => ?_) (fun hb => ?_)
      ·refine oR 2 (atN 29 (ctl1 g16p6)) ((71, q29 x1_4.1.f2) :: (70, .ptr 0 7 2) :: (69, .bool true) :: E12) ?_
       refine qGy (fun (x4_29 : S28) => (.vptr [.i x4_29.f0, .str x4_29.f1, q29 x4_29.f2, .bool x4_29.f3, .bool x4_29.f4, w9 x4_29.f5, w9 x4_29.f6], (mkH K1))) (atN 30 (ctl1 g16p6)) (fun x4_29 => ((72, .vptr [.i x4_29.f0, .str x4_29.f1, q29 x4_29.f2, .bool x4_29.f3, .bool x4_29.f4, w9 x4_29.f5, w9 x4_29.f6]) :: (71, q29 x1_4.1.f2) :: (70, .ptr 0 7 2) :: (69, .bool true) :: E12)) (fun _ hx => vidxR (sz := 7) qO7 hx (by kernel_rfl)) (fun _ => by kernel_rfl) (fun x4_29 hx4_29 => ?_)
       let E13 : Env := ((77, .bool (eqL x4_29.f1 [42])) :: (76, .bool (eqL x4_29.f1 [42])) :: (75, .bool (eqL x4_29.f1 [42])) :: (74, .str x4_29.f1) :: (73, .vptr [.str x4_29.f1, q29 x4_29.f2, .bool x4_29.f3, .bool x4_29.f4, w9 x4_29.f5, w9 x4_29.f6]) :: (72, .vptr [.i x4_29.f0, .str x4_29.f1, q29 x4_29.f2, .bool x4_29.f3, .bool x4_29.f4, w9 x4_29.f5, w9 x4_29.f6]) :: (71, q29 x1_4.1.f2) :: (70, .ptr 0 7 2) :: (69, .bool true) :: E12)
       refine oH 5 (atN 35 (ctl1 g16p6)) E13 (mkH K1) ?_
       refine oS 77 (fun hb => ?_) (fun hb => ?_)
       ·let E14 : Env := ((81, .bool (decide (x2_2.2.2 = 8))) :: (80, .bool (decide (x2_2.2.2 = 8))) :: (79, .bool (decide (x2_2.2.2 = 8))) :: (78, .i x2_2.2.2) :: (77, .bool true) :: E13)
        refine oR 4 (atN 39 (ctl1 g16p6)) E14 ?_
        refine oS 81 (fun hb => ?_) (fun hb => ?_)
        ·let E15 : Env := ((85, .bool (decide (x3_4.2.2 = 0))) :: (84, .bool (decide (x3_4.2.2 = 0))) :: (83, .bool (decide (x3_4.2.2 = 0))) :: (82, .i x3_4.2.2) :: (81, .bool true) :: E14)
         refine oR 4 (atN 43 (ctl1 g16p6)) E15 ?_
         refine oS 85 (fun hb => ?_) (fun hb => ?_)
         ·let E16 : Env := ((91, .bool (decide ((x3_4.1.f2.n : Int) = 2))) :: (90, .bool (decide ((x3_4.1.f2.n : Int) = 2))) :: (89, .bool (decide ((x3_4.1.f2.n : Int) = 2))) :: (88, .i (x3_4.1.f2.n : Int)) :: (87, q29 x3_4.1.f2) :: (86, .ptr 3 7 2) :: (85, .bool true) :: E15)
          refine oR 6 (atN 49 (ctl1 g16p6)) E16 ?_
          refine oS 91 (fun hb => ?_) (fun hb => ?_)
          ·refine oR 2 (atN 51 (ctl1 g16p6)) ((93, q29 x3_4.1.f2) :: (92, .ptr 3 7 2) :: (91, .bool true) :: E16) ?_
           refine qGy (fun (x4_51 : S28) => (.vptr [.i x4_51.f0, .str x4_51.f1, q29 x4_51.f2, .bool x4_51.f3, .bool x4_51.f4, w9 x4_51.f5, w9 x4_51.f6], (mkH K1))) (atN 52 (ctl1 g16p6)) (fun x4_51 => ((94, .vptr [.i x4_51.f0, .str x4_51.f1, q29 x4_51.f2, .bool x4_51.f3, .bool x4_51.f4, w9 x4_51.f5, w9 x4_51.f6]) :: (93, q29 x3_4.1.f2) :: (92, .ptr 3 7 2) :: (91, .bool true) :: E16)) (fun _ hx => vidxR (sz := 7) qO7 hx (by kernel_rfl)) (fun _ => by kernel_rfl) (fun x4_51 hx4_51 => ?_)
           exact oQ 6
          ·exact oQ 9
         ·exact oQ 15
        ·exact oQ 19
       ·exact oQ 23
      ·exact oQ 31
     ·exact oQ 37
    ·exact oQ 42
   ·exact oQ 47
  ·exact oQ 51
 ·exact oQ 55
def Xg10 : Fx Bool := ⟨Try.prog, cx, Try.f10, fun r => .bool r, 0, fun _ => H0, cxTi, cxOrd, fun _ => none, false⟩
def g10c0 : List (List Nat) := [([123] : List Nat), ([91] : List Nat), ([102, 40] : List Nat)]
def g10c1 : List Int := [(0 : Int), (0 : Int), (1 : Int)]
def g10c2 : List (List Nat) := [([125] : List Nat), ([93] : List Nat), ([41] : List Nat)]
def g10c3 : List Nat := [32, 37, 122, 10, 32, 44, 32, 121]
def g10p0 : Pt := nav [0] (bodyAt Try.f10)
def g10p1 : Pt := nav [0, 0, 0, 0] g10p0
def g10p2 : Pt := nav [0, 0] g10p1
def g10p3 : Pt := nav [1, 0] g10p2
def g10p4 : Pt := nav [2, 0, 0] g10p2
def g10p6 : Pt := nav [0, 0, 0] g10p4
def g10p7 : Pt := nav [0, 0, 0, 0] g10p6
def g10p8 : Pt := nav [0, 0, 0, 0] g10p7
def g10p9 : Pt := nav [0, 0, 0] g10p8
def g10p10 : Pt := nav [0, 0] g10p9
def g10p11 : Pt := nav [1, 0, 0, 0, 0, 0] g10p10
def g10p12 : Pt := nav [2, 0, 0, 0] g10p10
def g10p13 : Pt := nav [0, 0] g10p11
def g10p14 : Pt := nav [0, 0] g10p12
def g10p15 : Pt := nav [1] g10p13
def g10p16 : Pt := nav [2, 0, 0, 0] g10p13
def g10p17 : Pt := nav [1] g10p14
def g10p18 : Pt := nav [2, 0, 0] g10p14
def g10p19 : Pt := nav [0, 0] g10p16
def g10p20 : Pt := nav [0, 0, 0] g10p18
def g10p21 : Pt := nav [1] g10p19
def g10p22 : Pt := nav [2, 0] g10p19
def g10p23 : Pt := nav [0, 0, 0] g10p20
def g10p25 : Pt := nav [0, 0, 0, 0] g10p23
def g10p26 : Pt := nav [0, 0] g10p25
def g10p28 : Pt := nav [2, 0, 0, 0] g10p26
def g10p29 : Pt := nav [0, 0, 0, 0] g10p28
def g10p30 : Pt := nav [0, 0, 0] g10p29
def g10p31 : Pt := nav [0, 0] g10p30
def g10p32 : Pt := nav [1, 0, 0, 0, 0] g10p31
def g10p33 : Pt := nav [2, 0, 0] g10p31
def g10p34 : Pt := nav [0, 0, 0] g10p32
def g10p35 : Pt := nav [0] g10p34
def qCw (k : Nat)  (a0 : (List Bool)) (a1 : Bool) (x2_5 : Int) (x8_3 : (S28 × Int)) (ih : Int → Option Bool) : Int → Option Bool :=
 fun (y20_0 : Int) => if (decide (y20_0 < (a0.length : Int))) then ((nthR d29 7 x8_3.1.f2.n x8_3.1.f2.cells (fW .i64 (x2_5 + y20_0))).bind fun x11_5 => jn (fun (z21 : Bool × Int) => if z21.1 then (some false) else (ih (fW .i64 (z21.2 + 1)))) (fun j21 => (nthL a0 y20_0).bind fun x12_2 => if (!(x12_2 == decide ((x11_5.f5.length : Int) = 1))) then (j21 (true, y20_0)) else (if (decide (1 < (x11_5.f5.length : Int))) then (j21 (true, y20_0)) else ((nthL a0 y20_0).bind fun x12_16 => if x12_16 then ((nthL x11_5.f5 0).bind fun x12_20 => (toS ([fW .u8 (97 + fW .u8 y20_0)] : List Int)).bind fun x12_26 => (catS ([37, 99] : List Nat) x12_26).bind fun x12_27 => j21 (!(eqL x12_20 x12_27), y20_0)) else (j21 (false, y20_0)))))) else ((g16 k).bind fun x13_0 => if x13_0 then (if (a1 == decide ((x8_3.1.f6.length : Int) = 1)) then (if (!a1) then (some true) else ((nthL x8_3.1.f6 0).bind fun x13_15 => some (eqL x13_15 [37, 116]))) else (some false)) else (some false))
def qD7 (k : Nat)  (a0 : (List Bool)) (a1 : Bool) (x2_5 : Int) (x8_3 : (S28 × Int)) (n : Nat) : Int → Option Bool := lp (fun _ => none) (qCw k a0 a1 x2_5 x8_3) n
theorem qKq (k : Nat)   (a0 : (List Bool)) (a1 : Bool) (x2_5 : Int) (x8_3 : (S28 × Int))  : ∀ (n : Nat) (y20_0 : Int), Ok Xg10 g10p29 [(0, w4 a0), (1, .bool a1), (8, .i x2_5), (11, .ptr 1 7 0), (15, .i y20_0)] (mkH [⟨[], 0, false⟩, ⟨[.i x8_3.1.f0, .str x8_3.1.f1, q29 x8_3.1.f2, .bool x8_3.1.f3, .bool x8_3.1.f4, w9 x8_3.1.f5, w9 x8_3.1.f6], 7, false⟩]) (qD7 k a0 a1 x2_5 x8_3 n y20_0) := by
 intro n
 induction n with
 | zero => intro y20_0; exact ok_none
 | succ n ih =>
  intro y20_0
  show Ok _ _ _ _ (qCw k a0 a1 x2_5 x8_3 (qD7 k a0 a1 x2_5 x8_3 n) y20_0)
  unfold qCw
  refine qAk (p' := nav [0] g10p29) (by kernel_rfl) ?_
  let E28 : Env := [(109, .bool (decide (y20_0 < (a0.length : Int)))), (108, .i (a0.length : Int)), (107, w4 a0), (106, .i y20_0), (0, w4 a0), (1, .bool a1), (8, .i x2_5), (11, .ptr 1 7 0), (15, .i y20_0)]
  refine oH 8 g10p31 E28 (mkH [⟨[], 0, false⟩, ⟨e29 x8_3.1, 7, false⟩]) ?_
  refine oS 109 (fun hb => ?_) (fun hb => ?_)
  ·let E29 : Env := ((116, .i (fW .i64 (x2_5 + y20_0))) :: (115, .i y20_0) :: (114, .i x2_5) :: (113, q29 x8_3.1.f2) :: (112, .ptr 1 7 2) :: (109, .bool true) :: E28)
   refine oR 11 (atN 5 (ctl1 g10p32)) E29 ?_
   refine qGy (fun (x11_5 : S28) => (.vptr [.i x11_5.f0, .str x11_5.f1, q29 x11_5.f2, .bool x11_5.f3, .bool x11_5.f4, w9 x11_5.f5, w9 x11_5.f6], (mkH [⟨[], 0, false⟩, ⟨e29 x8_3.1, 7, false⟩]))) (atN 6 (ctl1 g10p32)) (fun x11_5 => ((117, .vptr [.i x11_5.f0, .str x11_5.f1, q29 x11_5.f2, .bool x11_5.f3, .bool x11_5.f4, w9 x11_5.f5, w9 x11_5.f6]) :: E29)) (fun _ hx => vidxR (sz := 7) qO7 hx (by kernel_rfl)) (fun _ => by kernel_rfl) (fun x11_5 hx11_5 => ?_)
   refine oLH 5 g10p34 [(0, w4 a0), (1, .bool a1), (8, .i x2_5), (11, .ptr 1 7 0), (15, .i y20_0), (16, w9 x11_5.f5)] (mkH [⟨[], 0, false⟩, ⟨e29 x8_3.1, 7, false⟩]) ?_
   refine oJ g10p35 (fun (z21 : Bool × Int) => [(0, w4 a0), (1, .bool a1), (8, .i x2_5), (11, .ptr 1 7 0), (15, .i z21.2), (150, .bool z21.1)]) (fun (z21 : Bool × Int) => (mkH [⟨[], 0, false⟩, ⟨e29 x8_3.1, 7, false⟩])) (fun z21 => ?_) (fun j21 hj21 => ?_)
   ·refine oS 150 (fun hb => ?_) (fun hb => ?_)
    ·exact oQ 6
    ·refine oLH 7 g10p29 [(0, w4 a0), (1, .bool a1), (8, .i x2_5), (11, .ptr 1 7 0), (15, .i (fW .i64 (z21.2 + 1)))] (mkH [⟨[], 0, false⟩, ⟨e29 x8_3.1, 7, false⟩]) ?_
     exact ih (fW .i64 (z21.2 + 1))
   ·refine qA9 (fun x12_2 hx12_2 => ?_)
    refine qDh (fun hb19 => ?_) (fun hb19 => ?_)
    ·let E35 : Env := [(121, .i y20_0), (120, w4 a0), (0, w4 a0), (1, .bool a1), (8, .i x2_5), (11, .ptr 1 7 0), (15, .i y20_0), (16, w9 x11_5.f5)]
     let E36 : Env := ((128, .bool (!(x12_2 == decide ((x11_5.f5.length : Int) = 1)))) :: (127, .bool (!(x12_2 == decide ((x11_5.f5.length : Int) = 1)))) :: (126, .bool (decide ((x11_5.f5.length : Int) = 1))) :: (125, .i (x11_5.f5.length : Int)) :: (124, w9 x11_5.f5) :: (123, .bool x12_2) :: (122, .vptr [.bool x12_2]) :: E35)
     let E37 : Env := [(150, .bool true), (149, .tuple []), (148, .tuple []), (147, .tuple []), (146, .tuple []), (145, .tuple []), (144, .tuple []), (143, .tuple []), (142, .tuple []), (141, .tuple []), (140, .tuple []), (139, .tuple []), (138, .tuple []), (137, .tuple []), (136, .tuple []), (135, .tuple []), (134, .tuple []), (133, .bool true), (132, .bool true), (131, .tuple []), (130, .tuple []), (129, .tuple []), (128, .bool true), (127, .bool true), (126, .bool (decide ((x11_5.f5.length : Int) = 1))), (125, .i (x11_5.f5.length : Int)), (124, w9 x11_5.f5), (123, .bool x12_2), (122, .vptr [.bool x12_2]), (121, .i y20_0), (120, w4 a0), (0, w4 a0), (1, .bool a1), (8, .i x2_5), (11, .ptr 1 7 0), (15, .i y20_0), (16, w9 x11_5.f5)]
     refine oD (H' := (mkH [⟨[], 0, false⟩, ⟨e29 x8_3.1, 7, false⟩])) (nav [0] g10p34) E37 [(mkH [⟨[], 0, false⟩, ⟨e29 x8_3.1, 7, false⟩])] ⟨[], [(0, 0, 0), (0, 0, 0), (3, 0, 0), (7, 0, 0), (0, 0, 0), (16, 0, 0), (48, 0, 0), (127, 0, 0), (255, 0, 0), (511, 0, 0), (1023, 0, 0), (2047, 0, 0), (4095, 0, 0), (8191, 0, 0), (16383, 0, 0), (16383, 0, 0), (65535, 0, 0), (131071, 0, 0), (262143, 0, 0), (524287, 0, 0), (1048575, 0, 0), (2097151, 0, 1), (524287, 0, 0), (4718591, 0, 0), (13107199, 0, 0), (29884415, 0, 0), (63438847, 1, 1), (130547711, 0, 0), (268435455, 0, 0), (536870911, 0, 0), (1073741823, 0, 0)], 31, thrown, [], H0⟩ (oDr 2 2 E35 (qA8 (l' := (opsAt g10p34).toList.drop 3) (eE := ((122, .vptr [.bool x12_2]) :: E35)) (hs := []) (x := x12_2) (fun (x12_2 : Bool) => (.vptr [.bool x12_2], (mkH [⟨[], 0, false⟩, ⟨e29 x8_3.1, 7, false⟩]))) (vidxH (sz := 1) e4_len (by kernel_rfl)) hx12_2 (by kernel_rfl) (oDr 6 9 E36 (qA6 (eE := [(128, .bool true), (127, .bool true), (126, .bool (decide ((x11_5.f5.length : Int) = 1))), (125, .i (x11_5.f5.length : Int)), (124, w9 x11_5.f5), (123, .bool x12_2), (122, .vptr [.bool x12_2]), (121, .i y20_0), (120, w4 a0), (0, w4 a0), (1, .bool a1), (8, .i x2_5), (11, .ptr 1 7 0), (15, .i y20_0), (16, w9 x11_5.f5)]) (congrArg (fun z : Bool => ([(128, .bool z), (127, .bool z), (126, .bool (decide ((x11_5.f5.length : Int) = 1))), (125, .i (x11_5.f5.length : Int)), (124, w9 x11_5.f5), (123, .bool x12_2), (122, .vptr [.bool x12_2]), (121, .i y20_0), (120, w4 a0), (0, w4 a0), (1, .bool a1), (8, .i x2_5), (11, .ptr 1 7 0), (15, .i y20_0), (16, w9 x11_5.f5)] : Env)) hb19) (oDh 22 31 E37 (mkH [⟨[], 0, false⟩, ⟨e29 x8_3.1, 7, false⟩]) [(mkH [⟨[], 0, false⟩, ⟨e29 x8_3.1, 7, false⟩])] .nil))))) ?_
     refine oK [0, 1, 8, 11, 15, 150] [(0, w4 a0), (1, .bool a1), (8, .i x2_5), (11, .ptr 1 7 0), (15, .i y20_0), (150, .bool true)] ?_
     exact hj21 (true, y20_0)
    ·refine qDh (fun hb20 => ?_) (fun hb20 => ?_)
     ·let E35 : Env := [(121, .i y20_0), (120, w4 a0), (0, w4 a0), (1, .bool a1), (8, .i x2_5), (11, .ptr 1 7 0), (15, .i y20_0), (16, w9 x11_5.f5)]
      let E36 : Env := ((128, .bool (!(x12_2 == decide ((x11_5.f5.length : Int) = 1)))) :: (127, .bool (!(x12_2 == decide ((x11_5.f5.length : Int) = 1)))) :: (126, .bool (decide ((x11_5.f5.length : Int) = 1))) :: (125, .i (x11_5.f5.length : Int)) :: (124, w9 x11_5.f5) :: (123, .bool x12_2) :: (122, .vptr [.bool x12_2]) :: E35)
      let E39 : Env := [(133, .bool (decide (1 < (x11_5.f5.length : Int)))), (132, .bool (decide (1 < (x11_5.f5.length : Int)))), (131, .bool (decide (1 < (x11_5.f5.length : Int)))), (130, .i (x11_5.f5.length : Int)), (129, w9 x11_5.f5), (128, .bool false), (127, .bool false), (126, .bool (decide ((x11_5.f5.length : Int) = 1))), (125, .i (x11_5.f5.length : Int)), (124, w9 x11_5.f5), (123, .bool x12_2), (122, .vptr [.bool x12_2]), (121, .i y20_0), (120, w4 a0), (0, w4 a0), (1, .bool a1), (8, .i x2_5), (11, .ptr 1 7 0), (15, .i y20_0), (16, w9 x11_5.f5)]
      let E40 : Env := [(150, .bool true), (149, .tuple []), (148, .tuple []), (147, .tuple []), (146, .tuple []), (145, .tuple []), (144, .tuple []), (143, .tuple []), (142, .tuple []), (141, .tuple []), (140, .tuple []), (139, .tuple []), (138, .tuple []), (137, .tuple []), (136, .tuple []), (135, .tuple []), (134, .tuple []), (133, .bool true), (132, .bool true), (131, .bool true), (130, .i (x11_5.f5.length : Int)), (129, w9 x11_5.f5), (128, .bool false), (127, .bool false), (126, .bool (decide ((x11_5.f5.length : Int) = 1))), (125, .i (x11_5.f5.length : Int)), (124, w9 x11_5.f5), (123, .bool x12_2), (122, .vptr [.bool x12_2]), (121, .i y20_0), (120, w4 a0), (0, w4 a0), (1, .bool a1), (8, .i x2_5), (11, .ptr 1 7 0), (15, .i y20_0), (16, w9 x11_5.f5)]
      refine oD (H' := (mkH [⟨[], 0, false⟩, ⟨e29 x8_3.1, 7, false⟩])) (nav [0] g10p34) E40 [(mkH [⟨[], 0, false⟩, ⟨e29 x8_3.1, 7, false⟩])] ⟨[], [(0, 0, 0), (0, 0, 0), (3, 0, 0), (7, 0, 0), (0, 0, 0), (16, 0, 0), (48, 0, 0), (127, 0, 0), (255, 0, 0), (511, 0, 0), (1023, 0, 0), (2047, 0, 0), (4095, 0, 0), (8191, 0, 0), (16383, 0, 0), (16383, 0, 0), (65535, 0, 0), (131071, 0, 0), (262143, 0, 0), (524287, 0, 0), (1048575, 0, 0), (2097151, 0, 1), (524287, 0, 0), (4718591, 0, 0), (13107199, 0, 0), (29884415, 0, 0), (63438847, 1, 1), (130547711, 0, 0), (268435455, 0, 0), (536870911, 0, 0), (1073741823, 0, 0)], 31, thrown, [], H0⟩ (oDr 2 2 E35 (qA8 (l' := (opsAt g10p34).toList.drop 3) (eE := ((122, .vptr [.bool x12_2]) :: E35)) (hs := []) (x := x12_2) (fun (x12_2 : Bool) => (.vptr [.bool x12_2], (mkH [⟨[], 0, false⟩, ⟨e29 x8_3.1, 7, false⟩]))) (vidxH (sz := 1) e4_len (by kernel_rfl)) hx12_2 (by kernel_rfl) (oDr 6 9 E36 (qA6 (eE := [(128, .bool false), (127, .bool false), (126, .bool (decide ((x11_5.f5.length : Int) = 1))), (125, .i (x11_5.f5.length : Int)), (124, w9 x11_5.f5), (123, .bool x12_2), (122, .vptr [.bool x12_2]), (121, .i y20_0), (120, w4 a0), (0, w4 a0), (1, .bool a1), (8, .i x2_5), (11, .ptr 1 7 0), (15, .i y20_0), (16, w9 x11_5.f5)]) (congrArg (fun z : Bool => ([(128, .bool z), (127, .bool z), (126, .bool (decide ((x11_5.f5.length : Int) = 1))), (125, .i (x11_5.f5.length : Int)), (124, w9 x11_5.f5), (123, .bool x12_2), (122, .vptr [.bool x12_2]), (121, .i y20_0), (120, w4 a0), (0, w4 a0), (1, .bool a1), (8, .i x2_5), (11, .ptr 1 7 0), (15, .i y20_0), (16, w9 x11_5.f5)] : Env)) hb19) (oDr 5 14 E39 (qA6 (eE := [(133, .bool true), (132, .bool true), (131, .bool true), (130, .i (x11_5.f5.length : Int)), (129, w9 x11_5.f5), (128, .bool false), (127, .bool false), (126, .bool (decide ((x11_5.f5.length : Int) = 1))), (125, .i (x11_5.f5.length : Int)), (124, w9 x11_5.f5), (123, .bool x12_2), (122, .vptr [.bool x12_2]), (121, .i y20_0), (120, w4 a0), (0, w4 a0), (1, .bool a1), (8, .i x2_5), (11, .ptr 1 7 0), (15, .i y20_0), (16, w9 x11_5.f5)]) (congrArg (fun z : Bool => ([(133, .bool z), (132, .bool z), (131, .bool z), (130, .i (x11_5.f5.length : Int)), (129, w9 x11_5.f5), (128, .bool false), (127, .bool false), (126, .bool (decide ((x11_5.f5.length : Int) = 1))), (125, .i (x11_5.f5.length : Int)), (124, w9 x11_5.f5), (123, .bool x12_2), (122, .vptr [.bool x12_2]), (121, .i y20_0), (120, w4 a0), (0, w4 a0), (1, .bool a1), (8, .i x2_5), (11, .ptr 1 7 0), (15, .i y20_0), (16, w9 x11_5.f5)] : Env)) hb20) (oDh 17 31 E40 (mkH [⟨[], 0, false⟩, ⟨e29 x8_3.1, 7, false⟩]) [(mkH [⟨[], 0, false⟩, ⟨e29 x8_3.1, 7, false⟩])] .nil))))))) ?_
      refine oK [0, 1, 8, 11, 15, 150] [(0, w4 a0), (1, .bool a1), (8, .i x2_5), (11, .ptr 1 7 0), (15, .i y20_0), (150, .bool true)] ?_
      exact hj21 (true, y20_0)
     ·refine qA9 (fun x12_16 hx12_16 => ?_)
      refine qDh (fun hb21 => ?_) (fun hb21 => ?_)
      ·refine qA9 (fun x12_20 hx12_20 => ?_)
       refine qA9 (fun x12_26 hx12_26 => ?_)
       refine qA9 (fun x12_27 hx12_27 => ?_)
       let E35 : Env := [(121, .i y20_0), (120, w4 a0), (0, w4 a0), (1, .bool a1), (8, .i x2_5), (11, .ptr 1 7 0), (15, .i y20_0), (16, w9 x11_5.f5)]
       let E36 : Env := ((128, .bool (!(x12_2 == decide ((x11_5.f5.length : Int) = 1)))) :: (127, .bool (!(x12_2 == decide ((x11_5.f5.length : Int) = 1)))) :: (126, .bool (decide ((x11_5.f5.length : Int) = 1))) :: (125, .i (x11_5.f5.length : Int)) :: (124, w9 x11_5.f5) :: (123, .bool x12_2) :: (122, .vptr [.bool x12_2]) :: E35)
       let E39 : Env := [(133, .bool (decide (1 < (x11_5.f5.length : Int)))), (132, .bool (decide (1 < (x11_5.f5.length : Int)))), (131, .bool (decide (1 < (x11_5.f5.length : Int)))), (130, .i (x11_5.f5.length : Int)), (129, w9 x11_5.f5), (128, .bool false), (127, .bool false), (126, .bool (decide ((x11_5.f5.length : Int) = 1))), (125, .i (x11_5.f5.length : Int)), (124, w9 x11_5.f5), (123, .bool x12_2), (122, .vptr [.bool x12_2]), (121, .i y20_0), (120, w4 a0), (0, w4 a0), (1, .bool a1), (8, .i x2_5), (11, .ptr 1 7 0), (15, .i y20_0), (16, w9 x11_5.f5)]
       let E42 : Env := [(135, .i y20_0), (134, w4 a0), (133, .bool false), (132, .bool false), (131, .bool false), (130, .i (x11_5.f5.length : Int)), (129, w9 x11_5.f5), (128, .bool false), (127, .bool false), (126, .bool (decide ((x11_5.f5.length : Int) = 1))), (125, .i (x11_5.f5.length : Int)), (124, w9 x11_5.f5), (123, .bool x12_2), (122, .vptr [.bool x12_2]), (121, .i y20_0), (120, w4 a0), (0, w4 a0), (1, .bool a1), (8, .i x2_5), (11, .ptr 1 7 0), (15, .i y20_0), (16, w9 x11_5.f5)]
       let E43 : Env := ((140, .vptr [.str x12_20]) :: (139, w9 x11_5.f5) :: (138, .bool true) :: (137, .bool true) :: (136, .vptr [.bool x12_16]) :: E42)
       let E44 : Env := ((145, .slice 2 1 0 1 1) :: (144, .y (fW .u8 (97 + fW .u8 y20_0))) :: (143, .y (fW .u8 y20_0)) :: (142, .i y20_0) :: (141, .str x12_20) :: E43)
       let E45 : Env := ((150, .bool (!(eqL x12_20 x12_27))) :: (149, .bool (!(eqL x12_20 x12_27))) :: (148, .bool (!(eqL x12_20 x12_27))) :: (147, .str x12_27) :: (146, .str x12_26) :: E44)
       let Q1 : Blk := ⟨[.y (fW .u8 (97 + fW .u8 y20_0))], 0, false⟩
       refine oD (H' := (mkH [⟨[], 0, false⟩, ⟨e29 x8_3.1, 7, false⟩, Q1])) (nav [0] g10p34) E45 [(mkH [⟨[], 0, false⟩, ⟨e29 x8_3.1, 7, false⟩, Q1])] ⟨[], [(0, 0, 0), (0, 0, 0), (3, 0, 0), (7, 0, 0), (0, 0, 0), (16, 0, 0), (48, 0, 0), (127, 0, 0), (255, 0, 0), (511, 0, 0), (1023, 0, 0), (2047, 0, 0), (4095, 0, 0), (8191, 0, 0), (16383, 0, 0), (16383, 0, 0), (65535, 0, 0), (131071, 0, 0), (262143, 0, 0), (524287, 0, 0), (1048575, 0, 0), (2097151, 0, 1), (524287, 0, 0), (4718591, 0, 0), (13107199, 0, 0), (29884415, 0, 0), (63438847, 1, 1), (130547711, 0, 0), (268435455, 0, 0), (536870911, 0, 0), (1073741823, 0, 0)], 31, thrown, [], H0⟩ (oDr 2 2 E35 (qA8 (l' := (opsAt g10p34).toList.drop 3) (eE := ((122, .vptr [.bool x12_2]) :: E35)) (hs := []) (x := x12_2) (fun (x12_2 : Bool) => (.vptr [.bool x12_2], (mkH [⟨[], 0, false⟩, ⟨e29 x8_3.1, 7, false⟩]))) (vidxH (sz := 1) e4_len (by kernel_rfl)) hx12_2 (by kernel_rfl) (oDr 6 9 E36 (qA6 (eE := [(128, .bool false), (127, .bool false), (126, .bool (decide ((x11_5.f5.length : Int) = 1))), (125, .i (x11_5.f5.length : Int)), (124, w9 x11_5.f5), (123, .bool x12_2), (122, .vptr [.bool x12_2]), (121, .i y20_0), (120, w4 a0), (0, w4 a0), (1, .bool a1), (8, .i x2_5), (11, .ptr 1 7 0), (15, .i y20_0), (16, w9 x11_5.f5)]) (congrArg (fun z : Bool => ([(128, .bool z), (127, .bool z), (126, .bool (decide ((x11_5.f5.length : Int) = 1))), (125, .i (x11_5.f5.length : Int)), (124, w9 x11_5.f5), (123, .bool x12_2), (122, .vptr [.bool x12_2]), (121, .i y20_0), (120, w4 a0), (0, w4 a0), (1, .bool a1), (8, .i x2_5), (11, .ptr 1 7 0), (15, .i y20_0), (16, w9 x11_5.f5)] : Env)) hb19) (oDr 5 14 E39 (qA6 (eE := [(133, .bool false), (132, .bool false), (131, .bool false), (130, .i (x11_5.f5.length : Int)), (129, w9 x11_5.f5), (128, .bool false), (127, .bool false), (126, .bool (decide ((x11_5.f5.length : Int) = 1))), (125, .i (x11_5.f5.length : Int)), (124, w9 x11_5.f5), (123, .bool x12_2), (122, .vptr [.bool x12_2]), (121, .i y20_0), (120, w4 a0), (0, w4 a0), (1, .bool a1), (8, .i x2_5), (11, .ptr 1 7 0), (15, .i y20_0), (16, w9 x11_5.f5)]) (congrArg (fun z : Bool => ([(133, .bool z), (132, .bool z), (131, .bool z), (130, .i (x11_5.f5.length : Int)), (129, w9 x11_5.f5), (128, .bool false), (127, .bool false), (126, .bool (decide ((x11_5.f5.length : Int) = 1))), (125, .i (x11_5.f5.length : Int)), (124, w9 x11_5.f5), (123, .bool x12_2), (122, .vptr [.bool x12_2]), (121, .i y20_0), (120, w4 a0), (0, w4 a0), (1, .bool a1), (8, .i x2_5), (11, .ptr 1 7 0), (15, .i y20_0), (16, w9 x11_5.f5)] : Env)) hb20) (oDr 2 16 E42 (qA8 (l' := (opsAt g10p34).toList.drop 17) (eE := ((136, .vptr [.bool x12_16]) :: E42)) (hs := []) (x := x12_16) (fun (x12_16 : Bool) => (.vptr [.bool x12_16], (mkH [⟨[], 0, false⟩, ⟨e29 x8_3.1, 7, false⟩]))) (vidxH (sz := 1) e4_len (by kernel_rfl)) hx12_16 (by kernel_rfl) (oDr 2 19 ((138, .bool x12_16) :: (137, .bool x12_16) :: (136, .vptr [.bool x12_16]) :: E42) (qA6 (eE := ((138, .bool true) :: (137, .bool true) :: (136, .vptr [.bool x12_16]) :: E42)) (congrArg (fun z : Bool => (((138, .bool z) :: (137, .bool z) :: (136, .vptr [.bool x12_16]) :: E42) : Env)) hb21) (oDr 1 20 ((139, w9 x11_5.f5) :: (138, .bool true) :: (137, .bool true) :: (136, .vptr [.bool x12_16]) :: E42) (qA8 (l' := (opsAt g10p34).toList.drop 21) (eE := E43) (hs := []) (x := x12_20) (fun (x12_20 : (List Nat)) => (.vptr [.str x12_20], (mkH [⟨[], 0, false⟩, ⟨e29 x8_3.1, 7, false⟩]))) (vidxH (sz := 1) qC0 (by kernel_rfl)) hx12_20 (by kernel_rfl) (oDh 5 26 E44 (mkH [⟨[], 0, false⟩, ⟨e29 x8_3.1, 7, false⟩, Q1]) [(mkH [⟨[], 0, false⟩, ⟨e29 x8_3.1, 7, false⟩, Q1])] (qA8 (l' := (opsAt g10p34).toList.drop 27) (eE := ((146, .str x12_26) :: E44)) (hs := []) (x := x12_26) (fun (x12_26 : (List Nat)) => (.str x12_26, (mkH [⟨[], 0, false⟩, ⟨e29 x8_3.1, 7, false⟩, Q1]))) (toSE [fW .u8 (97 + fW .u8 y20_0)] (by kernel_rfl)) hx12_26 (by kernel_rfl) (qA8 (l' := (opsAt g10p34).toList.drop 28) (eE := ((147, .str x12_27) :: (146, .str x12_26) :: E44)) (hs := []) (x := x12_27) (fun (x12_27 : (List Nat)) => (.str x12_27, (mkH [⟨[], 0, false⟩, ⟨e29 x8_3.1, 7, false⟩, Q1]))) (catH (by kernel_rfl)) hx12_27 (by kernel_rfl) (oDr 3 31 E45 .nil)))))))))))))))) ?_
       refine oZ 145 2 1 1 [.y (fW .u8 (97 + fW .u8 y20_0))] [0, 1, 8, 11, 15, 129, 130, 131, 134, 135, 136, 137, 138, 139, 140, 141, 142, 143, 144, 146, 147, 148, 149, 150] [] trivial ?_
       refine oE [(145, w5 ([fW .u8 (97 + fW .u8 y20_0)] : List Int)), (0, w4 a0), (1, .bool a1), (8, .i x2_5), (11, .ptr 1 7 0), (15, .i y20_0), (129, w9 x11_5.f5), (130, .i (x11_5.f5.length : Int)), (131, .bool false), (134, w4 a0), (135, .i y20_0), (136, .vptr [.bool x12_16]), (137, .bool true), (138, .bool true), (139, w9 x11_5.f5), (140, .vptr [.str x12_20]), (141, .str x12_20), (142, .i y20_0), (143, .y (fW .u8 y20_0)), (144, .y (fW .u8 (97 + fW .u8 y20_0))), (146, .str x12_26), (147, .str x12_27), (148, .bool (!(eqL x12_20 x12_27))), (149, .bool (!(eqL x12_20 x12_27))), (150, .bool (!(eqL x12_20 x12_27)))] ?_
       refine oHp (mkH [⟨[], 0, false⟩, ⟨e29 x8_3.1, 7, false⟩, ⟨[], 0, false⟩]) ?_
       refine oK [0, 1, 8, 11, 15, 150] [(0, w4 a0), (1, .bool a1), (8, .i x2_5), (11, .ptr 1 7 0), (15, .i y20_0), (150, .bool (!(eqL x12_20 x12_27)))] ?_
       refine qAc [⟨[], 0, false⟩, ⟨e29 x8_3.1, 7, false⟩] [⟨[], 0, false⟩] (by kernel_rfl) rfl (by kernel_rfl) ⟨(by kernel_rfl), ⟨(by kernel_rfl), trivial⟩⟩ ?_
       exact hj21 (!(eqL x12_20 x12_27), y20_0)
      ·let E35 : Env := [(121, .i y20_0), (120, w4 a0), (0, w4 a0), (1, .bool a1), (8, .i x2_5), (11, .ptr 1 7 0), (15, .i y20_0), (16, w9 x11_5.f5)]
       let E36 : Env := ((128, .bool (!(x12_2 == decide ((x11_5.f5.length : Int) = 1)))) :: (127, .bool (!(x12_2 == decide ((x11_5.f5.length : Int) = 1)))) :: (126, .bool (decide ((x11_5.f5.length : Int) = 1))) :: (125, .i (x11_5.f5.length : Int)) :: (124, w9 x11_5.f5) :: (123, .bool x12_2) :: (122, .vptr [.bool x12_2]) :: E35)
       let E39 : Env := [(133, .bool (decide (1 < (x11_5.f5.length : Int)))), (132, .bool (decide (1 < (x11_5.f5.length : Int)))), (131, .bool (decide (1 < (x11_5.f5.length : Int)))), (130, .i (x11_5.f5.length : Int)), (129, w9 x11_5.f5), (128, .bool false), (127, .bool false), (126, .bool (decide ((x11_5.f5.length : Int) = 1))), (125, .i (x11_5.f5.length : Int)), (124, w9 x11_5.f5), (123, .bool x12_2), (122, .vptr [.bool x12_2]), (121, .i y20_0), (120, w4 a0), (0, w4 a0), (1, .bool a1), (8, .i x2_5), (11, .ptr 1 7 0), (15, .i y20_0), (16, w9 x11_5.f5)]
       let E42 : Env := [(135, .i y20_0), (134, w4 a0), (133, .bool false), (132, .bool false), (131, .bool false), (130, .i (x11_5.f5.length : Int)), (129, w9 x11_5.f5), (128, .bool false), (127, .bool false), (126, .bool (decide ((x11_5.f5.length : Int) = 1))), (125, .i (x11_5.f5.length : Int)), (124, w9 x11_5.f5), (123, .bool x12_2), (122, .vptr [.bool x12_2]), (121, .i y20_0), (120, w4 a0), (0, w4 a0), (1, .bool a1), (8, .i x2_5), (11, .ptr 1 7 0), (15, .i y20_0), (16, w9 x11_5.f5)]
       let E47 : Env := ((150, .bool false) :: (149, .bool false) :: (148, .tuple []) :: (147, .tuple []) :: (146, .tuple []) :: (145, .tuple []) :: (144, .tuple []) :: (143, .tuple []) :: (142, .tuple []) :: (141, .tuple []) :: (140, .tuple []) :: (139, .tuple []) :: (138, .bool false) :: (137, .bool false) :: (136, .vptr [.bool x12_16]) :: E42)
       refine oD (H' := (mkH [⟨[], 0, false⟩, ⟨e29 x8_3.1, 7, false⟩])) (nav [0] g10p34) E47 [(mkH [⟨[], 0, false⟩, ⟨e29 x8_3.1, 7, false⟩])] ⟨[], [(0, 0, 0), (0, 0, 0), (3, 0, 0), (7, 0, 0), (0, 0, 0), (16, 0, 0), (48, 0, 0), (127, 0, 0), (255, 0, 0), (511, 0, 0), (1023, 0, 0), (2047, 0, 0), (4095, 0, 0), (8191, 0, 0), (16383, 0, 0), (16383, 0, 0), (65535, 0, 0), (131071, 0, 0), (262143, 0, 0), (524287, 0, 0), (1048575, 0, 0), (2097151, 0, 1), (524287, 0, 0), (4718591, 0, 0), (13107199, 0, 0), (29884415, 0, 0), (63438847, 1, 1), (130547711, 0, 0), (268435455, 0, 0), (536870911, 0, 0), (1073741823, 0, 0)], 31, thrown, [], H0⟩ (oDr 2 2 E35 (qA8 (l' := (opsAt g10p34).toList.drop 3) (eE := ((122, .vptr [.bool x12_2]) :: E35)) (hs := []) (x := x12_2) (fun (x12_2 : Bool) => (.vptr [.bool x12_2], (mkH [⟨[], 0, false⟩, ⟨e29 x8_3.1, 7, false⟩]))) (vidxH (sz := 1) e4_len (by kernel_rfl)) hx12_2 (by kernel_rfl) (oDr 6 9 E36 (qA6 (eE := [(128, .bool false), (127, .bool false), (126, .bool (decide ((x11_5.f5.length : Int) = 1))), (125, .i (x11_5.f5.length : Int)), (124, w9 x11_5.f5), (123, .bool x12_2), (122, .vptr [.bool x12_2]), (121, .i y20_0), (120, w4 a0), (0, w4 a0), (1, .bool a1), (8, .i x2_5), (11, .ptr 1 7 0), (15, .i y20_0), (16, w9 x11_5.f5)]) (congrArg (fun z : Bool => ([(128, .bool z), (127, .bool z), (126, .bool (decide ((x11_5.f5.length : Int) = 1))), (125, .i (x11_5.f5.length : Int)), (124, w9 x11_5.f5), (123, .bool x12_2), (122, .vptr [.bool x12_2]), (121, .i y20_0), (120, w4 a0), (0, w4 a0), (1, .bool a1), (8, .i x2_5), (11, .ptr 1 7 0), (15, .i y20_0), (16, w9 x11_5.f5)] : Env)) hb19) (oDr 5 14 E39 (qA6 (eE := [(133, .bool false), (132, .bool false), (131, .bool false), (130, .i (x11_5.f5.length : Int)), (129, w9 x11_5.f5), (128, .bool false), (127, .bool false), (126, .bool (decide ((x11_5.f5.length : Int) = 1))), (125, .i (x11_5.f5.length : Int)), (124, w9 x11_5.f5), (123, .bool x12_2), (122, .vptr [.bool x12_2]), (121, .i y20_0), (120, w4 a0), (0, w4 a0), (1, .bool a1), (8, .i x2_5), (11, .ptr 1 7 0), (15, .i y20_0), (16, w9 x11_5.f5)]) (congrArg (fun z : Bool => ([(133, .bool z), (132, .bool z), (131, .bool z), (130, .i (x11_5.f5.length : Int)), (129, w9 x11_5.f5), (128, .bool false), (127, .bool false), (126, .bool (decide ((x11_5.f5.length : Int) = 1))), (125, .i (x11_5.f5.length : Int)), (124, w9 x11_5.f5), (123, .bool x12_2), (122, .vptr [.bool x12_2]), (121, .i y20_0), (120, w4 a0), (0, w4 a0), (1, .bool a1), (8, .i x2_5), (11, .ptr 1 7 0), (15, .i y20_0), (16, w9 x11_5.f5)] : Env)) hb20) (oDr 2 16 E42 (qA8 (l' := (opsAt g10p34).toList.drop 17) (eE := ((136, .vptr [.bool x12_16]) :: E42)) (hs := []) (x := x12_16) (fun (x12_16 : Bool) => (.vptr [.bool x12_16], (mkH [⟨[], 0, false⟩, ⟨e29 x8_3.1, 7, false⟩]))) (vidxH (sz := 1) e4_len (by kernel_rfl)) hx12_16 (by kernel_rfl) (oDr 2 19 ((138, .bool x12_16) :: (137, .bool x12_16) :: (136, .vptr [.bool x12_16]) :: E42) (qA6 (eE := ((138, .bool false) :: (137, .bool false) :: (136, .vptr [.bool x12_16]) :: E42)) (congrArg (fun z : Bool => (((138, .bool z) :: (137, .bool z) :: (136, .vptr [.bool x12_16]) :: E42) : Env)) hb21) (oDh 12 31 E47 (mkH [⟨[], 0, false⟩, ⟨e29 x8_3.1, 7, false⟩]) [(mkH [⟨[], 0, false⟩, ⟨e29 x8_3.1, 7, false⟩])] .nil))))))))))) ?_
       refine oK [0, 1, 8, 11, 15, 150] [(0, w4 a0), (1, .bool a1), (8, .i x2_5), (11, .ptr 1 7 0), (15, .i y20_0), (150, .bool false)] ?_
       exact hj21 (false, y20_0)
  ·refine oR 4 (atN 0 (ctl1 g10p33)) ((109, .bool false) :: E28) ?_
   refine oA (fun (x13_0 : Bool) => .bool x13_0) (atN 1 (ctl1 g10p33)) 151 [] (g16_ok k ) fun x13_0 hx13_0 => ?_
   refine oR 1 (atN 2 (ctl1 g10p33)) ((152, .bool x13_0) :: (151, .bool x13_0) :: (109, .bool false) :: E28) ?_
   refine oS 152 (fun hb => ?_) (fun hb => ?_)
   ·let E49 : Env := ((160, .bool (a1 == decide ((x8_3.1.f6.length : Int) = 1))) :: (159, .bool (a1 == decide ((x8_3.1.f6.length : Int) = 1))) :: (158, .bool (a1 == decide ((x8_3.1.f6.length : Int) = 1))) :: (157, .bool (decide ((x8_3.1.f6.length : Int) = 1))) :: (156, .i (x8_3.1.f6.length : Int)) :: (155, w9 x8_3.1.f6) :: (154, .ptr 1 7 6) :: (153, .bool a1) :: (152, .bool true) :: (152, .bool x13_0) :: (151, .bool x13_0) :: (109, .bool false) :: E28)
    refine oR 8 (atN 10 (ctl1 g10p33)) E49 ?_
    refine oS 160 (fun hb => ?_) (fun hb => ?_)
    ·refine oR 3 (atN 13 (ctl1 g10p33)) ((163, .bool (!a1)) :: (162, .bool (!a1)) :: (161, .bool a1) :: (160, .bool true) :: E49) ?_
     refine oS 163 (fun hb => ?_) (fun hb => ?_)
     ·exact oQ 10
     ·refine oR 2 (atN 15 (ctl1 g10p33)) ((165, w9 x8_3.1.f6) :: (164, .ptr 1 7 6) :: (163, .bool false) :: (163, .bool (!a1)) :: (162, .bool (!a1)) :: (161, .bool a1) :: (160, .bool true) :: E49) ?_
      refine oC (fun (x13_15 : (List Nat)) => (.vptr [.str x13_15], (mkH [⟨[], 0, false⟩, ⟨e29 x8_3.1, 7, false⟩]))) (atN 16 (ctl1 g10p33)) 166 (vidxH (sz := 1) qC0 (by kernel_rfl)) fun x13_15 hx13_15 => ?_
      exact oQ 7
    ·exact oQ 13
   ·exact oQ 21
def qCx (k : Nat)  (a0 : (List Bool)) (a1 : Bool) (a2 : Int) (x2_5 : Int) (ih : (List Nat) → Int → Option Bool) : (List Nat) → Int → Option Bool :=
 fun (y15_0 : (List Nat)) (y15_1 : Int) => if (decide (y15_1 < (a0.length : Int))) then (jn (fun (z16 : (List Nat) × Int) => (nthL a0 z16.2).bind fun x4_2 => jn (fun (z18 : (List Nat) × Int) => (catS z18.1 ([120] : List Nat)).bind fun x6_1 => ih x6_1 (fW .i64 (z18.2 + 1))) (fun j18 => if x4_2 then ((catS z16.1 ([37, 99] : List Nat)).bind fun x5_1 => (toS ([fW .u8 (97 + fW .u8 z16.2)] : List Int)).bind fun x5_6 => (catS x5_1 x5_6).bind fun x5_7 => (catS x5_7 ([10] : List Nat)).bind fun x5_8 => j18 (x5_8, z16.2)) else (j18 (z16.1, z16.2)))) (fun j16 => if (decide (0 < y15_1)) then ((catS y15_0 ([44, 32] : List Nat)).bind fun x10_1 => j16 (x10_1, y15_1)) else (j16 (y15_0, y15_1)))) else (jn (fun (z17 : (List Nat)) => (nthL g10c2 (fW .i64 ((fW .u64 a2).tmod 3))).bind fun x7_5 => (catS z17 x7_5).bind fun x8_2 => (g17 k x8_2).bind fun x8_3 => (catS z17 g10c3).bind fun x9_1 => (catS x9_1 x7_5).bind fun x9_3 => (g17 k x9_3).bind fun x9_4 => jn (fun (z19 : Bool) => if z19 then (some false) else (qD7 k a0 a1 x2_5 x8_3 k 0)) (fun j19 => if (!decide (x8_3.2 = 0)) then (j19 true) else (if (!decide (x9_4.2 = 8)) then (j19 true) else (j19 (!decide ((x8_3.1.f2.n : Int) = fW .i64 ((a0.length : Int) + x2_5))))))) (fun j17 => if a1 then ((catS y15_0 ([37, 116, 10] : List Nat)).bind fun x3_1 => j17 x3_1) else (j17 y15_0)))
def qBz (k : Nat)  (a0 : (List Bool)) (a1 : Bool) (a2 : Int) (x2_5 : Int) (n : Nat) : (List Nat) → Int → Option Bool := lp (fun _ _ => none) (qCx k a0 a1 a2 x2_5) n
theorem qGj (k : Nat)  (a0 : (List Bool)) (a1 : Bool) (a2 : Int) (x2_5 : Int) (n : Nat) (y15_0 : (List Nat)) (y15_1 : Int) : qBz k a0 a1 a2 x2_5 (n + 1) y15_0 y15_1 = (if (decide (y15_1 < (a0.length : Int))) then (jn (fun (z16 : (List Nat) × Int) => (nthL a0 z16.2).bind fun x4_2 => jn (fun (z18 : (List Nat) × Int) => (catS z18.1 ([120] : List Nat)).bind fun x6_1 => (qBz k a0 a1 a2 x2_5 n) x6_1 (fW .i64 (z18.2 + 1))) (fun j18 => if x4_2 then ((catS z16.1 ([37, 99] : List Nat)).bind fun x5_1 => (toS ([fW .u8 (97 + fW .u8 z16.2)] : List Int)).bind fun x5_6 => (catS x5_1 x5_6).bind fun x5_7 => (catS x5_7 ([10] : List Nat)).bind fun x5_8 => j18 (x5_8, z16.2)) else (j18 (z16.1, z16.2)))) (fun j16 => if (decide (0 < y15_1)) then ((catS y15_0 ([44, 32] : List Nat)).bind fun x10_1 => j16 (x10_1, y15_1)) else (j16 (y15_0, y15_1)))) else (jn (fun (z17 : (List Nat)) => (nthL g10c2 (fW .i64 ((fW .u64 a2).tmod 3))).bind fun x7_5 => (catS z17 x7_5).bind fun x8_2 => (g17 k x8_2).bind fun x8_3 => (catS z17 g10c3).bind fun x9_1 => (catS x9_1 x7_5).bind fun x9_3 => (g17 k x9_3).bind fun x9_4 => jn (fun (z19 : Bool) => if z19 then (some false) else (qD7 k a0 a1 x2_5 x8_3 k 0)) (fun j19 => if (!decide (x8_3.2 = 0)) then (j19 true) else (if (!decide (x9_4.2 = 8)) then (j19 true) else (j19 (!decide ((x8_3.1.f2.n : Int) = fW .i64 ((a0.length : Int) + x2_5))))))) (fun j17 => if a1 then ((catS y15_0 ([37, 116, 10] : List Nat)).bind fun x3_1 => j17 x3_1) else (j17 y15_0)))) := rfl
theorem qKr (k : Nat)   (a0 : (List Bool)) (a1 : Bool) (a2 : Int) (x2_5 : Int)  : ∀ (n : Nat) (y15_0 : (List Nat)) (y15_1 : Int), Ok Xg10 g10p8 [(0, w4 a0), (1, .bool a1), (2, .i a2), (7, .str y15_0), (8, .i x2_5), (9, .i y15_1)] (mkH []) (qBz k a0 a1 a2 x2_5 n y15_0 y15_1) := by
 intro n
 induction n with
 | zero => intro y15_0 y15_1; exact ok_none
 | succ n ih =>
  intro y15_0 y15_1
  show Ok _ _ _ _ (qCx k a0 a1 a2 x2_5 (qBz k a0 a1 a2 x2_5 n) y15_0 y15_1)
  unfold qCx
  refine qAk (p' := nav [0] g10p8) (by kernel_rfl) ?_
  let E8 : Env := [(43, .bool (decide (y15_1 < (a0.length : Int)))), (42, .i (a0.length : Int)), (41, w4 a0), (40, .i y15_1), (0, w4 a0), (1, .bool a1), (2, .i a2), (7, .str y15_0), (8, .i x2_5), (9, .i y15_1)]
  refine oH 8 g10p10 E8 (mkH []) ?_
  refine oS 43 (fun hb => ?_) (fun hb => ?_)
  ·refine oR 10 g10p13 ((47, .bool (decide (0 < y15_1))) :: (46, .i y15_1) :: (43, .bool true) :: E8) ?_
   refine oJ g10p16 (fun (z16 : (List Nat) × Int) => [(0, w4 a0), (1, .bool a1), (2, .i a2), (7, .str z16.1), (8, .i x2_5), (9, .i z16.2)]) (fun (z16 : (List Nat) × Int) => (mkH [])) (fun z16 => ?_) (fun j16 hj16 => ?_)
   ·let E9 : Env := [(51, .i z16.2), (50, w4 a0), (0, w4 a0), (1, .bool a1), (2, .i a2), (7, .str z16.1), (8, .i x2_5), (9, .i z16.2)]
    refine oH 3 (atN 2 (ctl1 g10p16)) E9 (mkH []) ?_
    refine oC (fun (x4_2 : Bool) => (.vptr [.bool x4_2], (mkH []))) (atN 3 (ctl1 g10p16)) 52 (vidxH (sz := 1) e4_len (by kernel_rfl)) fun x4_2 hx4_2 => ?_
    refine oH 2 g10p19 ((53, .bool x4_2) :: (52, .vptr [.bool x4_2]) :: E9) (mkH []) ?_
    refine oJ g10p22 (fun (z18 : (List Nat) × Int) => [(0, w4 a0), (1, .bool a1), (2, .i a2), (7, .str z18.1), (8, .i x2_5), (9, .i z18.2)]) (fun (z18 : (List Nat) × Int) => (mkH [])) (fun z18 => ?_) (fun j18 hj18 => ?_)
    ·refine oH 2 (atN 1 (ctl1 g10p22)) [(63, .str z18.1), (0, w4 a0), (1, .bool a1), (2, .i a2), (7, .str z18.1), (8, .i x2_5), (9, .i z18.2)] (mkH []) ?_
     refine oC (fun (x6_1 : (List Nat)) => (.str x6_1, (mkH []))) (atN 2 (ctl1 g10p22)) 64 (catH (by kernel_rfl)) fun x6_1 hx6_1 => ?_
     refine oLH 7 g10p8 [(0, w4 a0), (1, .bool a1), (2, .i a2), (7, .str x6_1), (8, .i x2_5), (9, .i (fW .i64 (z18.2 + 1)))] (mkH []) ?_
     exact ih x6_1 (fW .i64 (z18.2 + 1))
    ·refine oS 53 (fun hb => ?_) (fun hb => ?_)
     ·refine oH 3 (atN 1 (ctl1 g10p21)) ((54, .str z16.1) :: (53, .bool true) :: (53, .bool x4_2) :: (52, .vptr [.bool x4_2]) :: E9) (mkH []) ?_
      refine oC (fun (x5_1 : (List Nat)) => (.str x5_1, (mkH []))) (atN 2 (ctl1 g10p21)) 55 (catH (by kernel_rfl)) fun x5_1 hx5_1 => ?_
      let Q1 : Blk := ⟨[.y (fW .u8 (97 + fW .u8 z16.2))], 0, false⟩
      refine oH 4 (atN 6 (ctl1 g10p21)) ((59, .slice 0 1 0 1 1) :: (58, .y (fW .u8 (97 + fW .u8 z16.2))) :: (57, .y (fW .u8 z16.2)) :: (56, .i z16.2) :: (55, .str x5_1) :: (54, .str z16.1) :: (53, .bool true) :: (53, .bool x4_2) :: (52, .vptr [.bool x4_2]) :: E9) (mkH [Q1]) ?_
      refine oC (fun (x5_6 : (List Nat)) => (.str x5_6, (mkH [Q1]))) (atN 7 (ctl1 g10p21)) 60 (toSE [fW .u8 (97 + fW .u8 z16.2)] (by kernel_rfl)) fun x5_6 hx5_6 => ?_
      refine oC (fun (x5_7 : (List Nat)) => (.str x5_7, (mkH [Q1]))) (atN 8 (ctl1 g10p21)) 61 (catH (by kernel_rfl)) fun x5_7 hx5_7 => ?_
      refine oC (fun (x5_8 : (List Nat)) => (.str x5_8, (mkH [Q1]))) (atN 9 (ctl1 g10p21)) 62 (catH (by kernel_rfl)) fun x5_8 hx5_8 => ?_
      refine oLH 2 g10p22 [(0, w4 a0), (1, .bool a1), (2, .i a2), (7, .str x5_8), (8, .i x2_5), (9, .i z16.2)] (mkH [Q1]) ?_
      refine qAc [] [Q1] (by kernel_rfl) rfl (by kernel_rfl) trivial ?_
      exact hj18 (x5_8, z16.2)
     ·refine oLH 2 g10p22 [(0, w4 a0), (1, .bool a1), (2, .i a2), (7, .str z16.1), (8, .i x2_5), (9, .i z16.2)] (mkH []) ?_
      exact hj18 (z16.1, z16.2)
   ·refine oS 47 (fun hb => ?_) (fun hb => ?_)
    ·let E16 : Env := ((48, .str y15_0) :: (47, .bool true) :: (47, .bool (decide (0 < y15_1))) :: (46, .i y15_1) :: (43, .bool true) :: E8)
     refine oH 3 (atN 1 (ctl1 g10p15)) E16 (mkH []) ?_
     refine oC (fun (x10_1 : (List Nat)) => (.str x10_1, (mkH []))) (atN 2 (ctl1 g10p15)) 49 (catH (by kernel_rfl)) fun x10_1 hx10_1 => ?_
     refine oH 4 g10p16 ((7, .str x10_1) :: (49, .str x10_1) :: E16) (mkH []) ?_
     refine oK [0, 1, 2, 7, 8, 9] [(0, w4 a0), (1, .bool a1), (2, .i a2), (7, .str x10_1), (8, .i x2_5), (9, .i y15_1)] ?_
     exact hj16 (x10_1, y15_1)
    ·refine oLH 4 g10p16 [(0, w4 a0), (1, .bool a1), (2, .i a2), (7, .str y15_0), (8, .i x2_5), (9, .i y15_1)] (mkH []) ?_
     exact hj16 (y15_0, y15_1)
  ·refine oR 7 g10p14 ((65, .bool a1) :: (43, .bool false) :: E8) ?_
   refine oJ g10p18 (fun (z17 : (List Nat)) => [(0, w4 a0), (1, .bool a1), (2, .i a2), (7, .str z17), (8, .i x2_5)]) (fun (z17 : (List Nat)) => (mkH [])) (fun z17 => ?_) (fun j17 hj17 => ?_)
   ·refine oH 2 (atN 1 (ctl1 g10p18)) [(68, .slice 0 3 0 3 1), (0, w4 a0), (1, .bool a1), (2, .i a2), (7, .str z17), (8, .i x2_5)] (mkH [⟨[.str [125], .str [93], .str [41]], 0, false⟩]) ?_
    refine oZ 68 0 3 1 [.str [125], .str [93], .str [41]] [0, 1, 2, 7, 8] [] trivial ?_
    refine oH 4 (atN 5 (ctl1 g10p18)) [(72, .i (fW .i64 ((fW .u64 a2).tmod 3))), (71, .int .u64 ((fW .u64 a2).tmod 3)), (70, .int .u64 (fW .u64 a2)), (69, .i a2), (68, w9 g10c2), (0, w4 a0), (1, .bool a1), (2, .i a2), (7, .str z17), (8, .i x2_5)] (mkH [⟨[], 0, false⟩]) ?_
    refine oC (fun (x7_5 : (List Nat)) => (.vptr [.str x7_5], (mkH [⟨[], 0, false⟩]))) (atN 6 (ctl1 g10p18)) 73 (vidxH (sz := 1) qC0 (by kernel_rfl)) fun x7_5 hx7_5 => ?_
    refine oLH 4 g10p20 [(0, w4 a0), (1, .bool a1), (7, .str z17), (8, .i x2_5), (10, .str x7_5)] (mkH [⟨[], 0, false⟩]) ?_
    refine oR 3 (atN 2 (ctl1 g10p20)) ((77, .str x7_5) :: (76, .str z17) :: [(0, w4 a0), (1, .bool a1), (7, .str z17), (8, .i x2_5), (10, .str x7_5)]) ?_
    refine oC (fun (x8_2 : (List Nat)) => (.str x8_2, (mkH [⟨[], 0, false⟩]))) (atN 3 (ctl1 g10p20)) 78 (catH (by kernel_rfl)) fun x8_2 hx8_2 => ?_
    refine oA (fun (x8_3 : (S28 × Int)) => .tuple [n29 x8_3.1, .i x8_3.2]) (atN 4 (ctl1 g10p20)) 79 [.str x8_2] (g17_ok k x8_2) fun x8_3 hx8_3 => ?_
    let E23 : Env := [(0, w4 a0), (1, .bool a1), (7, .str z17), (8, .i x2_5), (10, .str x7_5), (11, .ptr 1 7 0), (12, .i x8_3.2)]
    refine oLH 8 g10p23 E23 (mkH [⟨[], 0, false⟩, ⟨e29 x8_3.1, 7, false⟩]) ?_
    refine oR 2 (atN 1 (ctl1 g10p23)) ((83, .str z17) :: E23) ?_
    refine oC (fun (x9_1 : (List Nat)) => (.str x9_1, (mkH [⟨[], 0, false⟩, ⟨e29 x8_3.1, 7, false⟩]))) (atN 2 (ctl1 g10p23)) 84 (catH (by kernel_rfl)) fun x9_1 hx9_1 => ?_
    refine oH 1 (atN 3 (ctl1 g10p23)) ((85, .str x7_5) :: (84, .str x9_1) :: (83, .str z17) :: E23) (mkH [⟨[], 0, false⟩, ⟨e29 x8_3.1, 7, false⟩]) ?_
    refine oC (fun (x9_3 : (List Nat)) => (.str x9_3, (mkH [⟨[], 0, false⟩, ⟨e29 x8_3.1, 7, false⟩]))) (atN 4 (ctl1 g10p23)) 86 (catH (by kernel_rfl)) fun x9_3 hx9_3 => ?_
    refine oA (fun (x9_4 : (S28 × Int)) => .tuple [n29 x9_4.1, .i x9_4.2]) (atN 5 (ctl1 g10p23)) 87 [.str x9_3] (g17_ok k x9_3) fun x9_4 hx9_4 => ?_
    let E25 : Env := [(0, w4 a0), (1, .bool a1), (8, .i x2_5), (11, .ptr 1 7 0), (12, .i x8_3.2), (14, .i x9_4.2)]
    let K1 : List Blk := [⟨[], 0, false⟩, ⟨e29 x8_3.1, 7, false⟩, ⟨e29 x9_4.1, 7, false⟩]
    refine oLH 9 g10p25 E25 (mkH K1) ?_
    refine oR 4 (atN 3 (ctl1 g10p25)) ((92, .bool (!decide (x8_3.2 = 0))) :: (91, .bool (!decide (x8_3.2 = 0))) :: (90, .i x8_3.2) :: E25) ?_
    refine oJ g10p26 (fun (z19 : Bool) => [(0, w4 a0), (1, .bool a1), (8, .i x2_5), (11, .ptr 1 7 0), (105, .bool z19)]) (fun (z19 : Bool) => (mkH [⟨[], 0, false⟩, ⟨e29 x8_3.1, 7, false⟩])) (fun z19 => ?_) (fun j19 hj19 => ?_)
    ·refine oS 105 (fun hb => ?_) (fun hb => ?_)
     ·exact oQ 6
     ·refine oLH 9 g10p29 [(0, w4 a0), (1, .bool a1), (8, .i x2_5), (11, .ptr 1 7 0), (15, .i 0)] (mkH [⟨[], 0, false⟩, ⟨e29 x8_3.1, 7, false⟩]) ?_
      exact (qKq k a0 a1 x2_5 x8_3 k) 0
    ·refine oS 92 (fun hb => ?_) (fun hb => ?_)
     ·refine oLH 14 g10p26 [(0, w4 a0), (1, .bool a1), (8, .i x2_5), (11, .ptr 1 7 0), (105, .bool true)] (mkH K1) ?_
      refine qAc [⟨[], 0, false⟩, ⟨e29 x8_3.1, 7, false⟩] [⟨e29 x9_4.1, 7, false⟩] (by kernel_rfl) rfl (by kernel_rfl) ⟨(by kernel_rfl), ⟨(by kernel_rfl), trivial⟩⟩ ?_
      exact hj19 true
     ·refine oH 4 (atN 7 (ctl1 g10p25)) ((96, .bool (!decide (x9_4.2 = 8))) :: (95, .bool (!decide (x9_4.2 = 8))) :: (94, .bool (!decide (x9_4.2 = 8))) :: (93, .i x9_4.2) :: (92, .bool false) :: (92, .bool (!decide (x8_3.2 = 0))) :: (91, .bool (!decide (x8_3.2 = 0))) :: (90, .i x8_3.2) :: E25) (mkH K1) ?_
      refine oS 96 (fun hb => ?_) (fun hb => ?_)
      ·refine oL 10 g10p26 [(0, w4 a0), (1, .bool a1), (8, .i x2_5), (11, .ptr 1 7 0), (105, .bool true)] ?_
       refine qAc [⟨[], 0, false⟩, ⟨e29 x8_3.1, 7, false⟩] [⟨e29 x9_4.1, 7, false⟩] (by kernel_rfl) rfl (by kernel_rfl) ⟨(by kernel_rfl), ⟨(by kernel_rfl), trivial⟩⟩ ?_
       exact hj19 true
      ·refine oL 10 g10p26 [(0, w4 a0), (1, .bool a1), (8, .i x2_5), (11, .ptr 1 7 0), (105, .bool (!decide ((x8_3.1.f2.n : Int) = fW .i64 ((a0.length : Int) + x2_5))))] ?_
       refine qAc [⟨[], 0, false⟩, ⟨e29 x8_3.1, 7, false⟩] [⟨e29 x9_4.1, 7, false⟩] (by kernel_rfl) rfl (by kernel_rfl) ⟨(by kernel_rfl), ⟨(by kernel_rfl), trivial⟩⟩ ?_
       exact hj19 (!decide ((x8_3.1.f2.n : Int) = fW .i64 ((a0.length : Int) + x2_5)))
   ·refine oS 65 (fun hb => ?_) (fun hb => ?_)
    ·refine oH 3 (atN 1 (ctl1 g10p17)) ((66, .str y15_0) :: (65, .bool true) :: (65, .bool a1) :: (43, .bool false) :: E8) (mkH []) ?_
     refine oC (fun (x3_1 : (List Nat)) => (.str x3_1, (mkH []))) (atN 2 (ctl1 g10p17)) 67 (catH (by kernel_rfl)) fun x3_1 hx3_1 => ?_
     refine oLH 3 g10p18 [(0, w4 a0), (1, .bool a1), (2, .i a2), (7, .str x3_1), (8, .i x2_5)] (mkH []) ?_
     exact hj17 x3_1
    ·refine oLH 3 g10p18 [(0, w4 a0), (1, .bool a1), (2, .i a2), (7, .str y15_0), (8, .i x2_5)] (mkH []) ?_
     exact hj17 y15_0
def g10 (k : Nat) (a0 : (List Bool)) (a1 : Bool) (a2 : Int) : Option Bool :=
 jn (fun (z14 : Bool) => if z14 then ((g16 k).bind fun x0_0 => some x0_0) else ((nthL g10c0 (fW .i64 ((fW .u64 a2).tmod 3))).bind fun x1_5 => (nthL g10c1 (fW .i64 ((fW .u64 a2).tmod 3))).bind fun x2_5 => qBz k a0 a1 a2 x2_5 k x1_5 0)) (fun j14 => if (decide ((a0.length : Int) < 1)) then (j14 true) else (j14 (decide (6 < (a0.length : Int)))))
theorem g10_ok (k : Nat) (a0 : (List Bool)) (a1 : Bool) (a2 : Int) (r : Bool) (h : g10 k a0 a1 a2 = some r) : PureOk Try.prog 10 [w4 a0, .bool a1, .i a2] (.bool r) := by
 refine qA5 Xg10 (fun _ => ⟨rfl, rfl⟩) Try.func10 (by decide +kernel) (by kernel_rfl) (t := g10 k a0 a1 a2) ?_ h
 unfold g10
 refine qA0 (eE := [(0, w4 a0), (1, .bool a1), (2, .i a2)]) (by kernel_rfl) ?_
 refine oH 11 (atN 4 (ctl1 g10p1)) [(20, .bool (decide ((a0.length : Int) < 1))), (19, .bool (decide ((a0.length : Int) < 1))), (18, .i (a0.length : Int)), (17, w4 a0), (6, .bool false), (0, w4 a0), (1, .bool a1), (2, .i a2)] (mkH []) ?_
 refine oJ g10p2 (fun (z14 : Bool) => [(0, w4 a0), (1, .bool a1), (2, .i a2), (24, .bool z14)]) (fun (z14 : Bool) => (mkH [])) (fun z14 => ?_) (fun j14 hj14 => ?_)
 ·refine oS 24 (fun hb => ?_) (fun hb => ?_)
  ·refine oH 3 (atN 0 (ctl1 g10p3)) [(24, .bool true), (0, w4 a0), (1, .bool a1), (2, .i a2), (24, .bool z14)] (mkH []) ?_
   refine oA (fun (x0_0 : Bool) => .bool x0_0) (atN 1 (ctl1 g10p3)) 25 [] (g16_ok k ) fun x0_0 hx0_0 => ?_
   exact oQ 3
  ·refine oH 5 (atN 1 (ctl1 g10p4)) [(26, .slice 0 3 0 3 1), (24, .bool false), (0, w4 a0), (1, .bool a1), (2, .i a2), (24, .bool z14)] (mkH [⟨[.str [123], .str [91], .str [102, 40]], 0, false⟩]) ?_
   refine oZ 26 0 3 1 [.str [123], .str [91], .str [102, 40]] [0, 1, 2, 24] [] trivial ?_
   refine oH 4 (atN 5 (ctl1 g10p4)) [(30, .i (fW .i64 ((fW .u64 a2).tmod 3))), (29, .int .u64 ((fW .u64 a2).tmod 3)), (28, .int .u64 (fW .u64 a2)), (27, .i a2), (26, w9 g10c0), (0, w4 a0), (1, .bool a1), (2, .i a2), (24, .bool false)] (mkH [⟨[], 0, false⟩]) ?_
   refine oC (fun (x1_5 : (List Nat)) => (.vptr [.str x1_5], (mkH [⟨[], 0, false⟩]))) (atN 6 (ctl1 g10p4)) 31 (vidxH (sz := 1) qC0 (by kernel_rfl)) fun x1_5 hx1_5 => ?_
   refine oLH 4 g10p6 [(0, w4 a0), (1, .bool a1), (2, .i a2), (7, .str x1_5)] (mkH [⟨[], 0, false⟩]) ?_
   refine oH 2 (atN 1 (ctl1 g10p6)) ((33, .slice 1 3 0 3 1) :: [(0, w4 a0), (1, .bool a1), (2, .i a2), (7, .str x1_5)]) (mkH [⟨[], 0, false⟩, ⟨[.i 0, .i 0, .i 1], 0, false⟩]) ?_
   refine oZ 33 1 3 1 [.i 0, .i 0, .i 1] [0, 1, 2, 7] [] trivial ?_
   refine oH 4 (atN 5 (ctl1 g10p6)) [(37, .i (fW .i64 ((fW .u64 a2).tmod 3))), (36, .int .u64 ((fW .u64 a2).tmod 3)), (35, .int .u64 (fW .u64 a2)), (34, .i a2), (33, w3 g10c1), (0, w4 a0), (1, .bool a1), (2, .i a2), (7, .str x1_5)] (mkH [⟨[], 0, false⟩, ⟨[], 0, false⟩]) ?_
   refine oC (fun (x2_5 : Int) => (.vptr [.i x2_5], (mkH [⟨[], 0, false⟩, ⟨[], 0, false⟩]))) (atN 6 (ctl1 g10p6)) 38 (vidxH (sz := 1) qO5 (by kernel_rfl)) fun x2_5 hx2_5 => ?_
   refine oLH 5 g10p7 [(0, w4 a0), (1, .bool a1), (2, .i a2), (7, .str x1_5), (8, .i x2_5)] (mkH [⟨[], 0, false⟩, ⟨[], 0, false⟩]) ?_
   refine oR 5 g10p8 ((9, .i 0) :: [(0, w4 a0), (1, .bool a1), (2, .i a2), (7, .str x1_5), (8, .i x2_5)]) ?_
   refine oK [0, 1, 2, 7, 8, 9] [(0, w4 a0), (1, .bool a1), (2, .i a2), (7, .str x1_5), (8, .i x2_5), (9, .i 0)] ?_
   refine qAc [] [⟨[], 0, false⟩, ⟨[], 0, false⟩] (by kernel_rfl) rfl (by kernel_rfl) trivial ?_
   exact (qKr k a0 a1 a2 x2_5 k) x1_5 0
 ·refine oS 20 (fun hb => ?_) (fun hb => ?_)
  ·refine oLH 5 g10p2 [(0, w4 a0), (1, .bool a1), (2, .i a2), (24, .bool true)] (mkH []) ?_
   exact hj14 true
  ·refine oLH 5 g10p2 [(0, w4 a0), (1, .bool a1), (2, .i a2), (24, .bool (decide (6 < (a0.length : Int))))] (mkH []) ?_
   exact hj14 (decide (6 < (a0.length : Int)))
def wholeF (s : List Nat) : Option ((S28 × Int)) := bif okT s then fg17 400 s else g17 400 s
theorem qC1 (s : List Nat) : g17 400 s = wholeF s := by
 unfold wholeF
 cases h : okT s with
 | false => rfl
 | true =>
  obtain ⟨h1, h2, h3⟩ := okT_spec h
  exact qKs (by decide) h1 h2 h3
theorem qEc : g16 400 = some true := by kernel_rfl
def qE6   (a0 : (List Bool)) (a1 : Bool) (x2_5 : Int) (x8_3 : (S28 × Int)) (ih : Int → Option Bool) : Int → Option Bool :=
 fun (y20_0 : Int) => if (decide (y20_0 < (a0.length : Int))) then ((nthR d29 7 x8_3.1.f2.n x8_3.1.f2.cells (fW .i64 (x2_5 + y20_0))).bind fun x11_5 => jn (fun (z21 : Bool × Int) => if z21.1 then (some false) else (ih (fW .i64 (z21.2 + 1)))) (fun j21 => (nthL a0 y20_0).bind fun x12_2 => if (!(x12_2 == decide ((x11_5.f5.length : Int) = 1))) then (j21 (true, y20_0)) else (if (decide (1 < (x11_5.f5.length : Int))) then (j21 (true, y20_0)) else ((nthL a0 y20_0).bind fun x12_16 => if x12_16 then ((nthL x11_5.f5 0).bind fun x12_20 => (toS ([fW .u8 (97 + fW .u8 y20_0)] : List Int)).bind fun x12_26 => (catS ([37, 99] : List Nat) x12_26).bind fun x12_27 => j21 (!(eqL x12_20 x12_27), y20_0)) else (j21 (false, y20_0)))))) else (if true then (if (a1 == decide ((x8_3.1.f6.length : Int) = 1)) then (if (!a1) then (some true) else ((nthL x8_3.1.f6 0).bind fun x13_15 => some (eqL x13_15 [37, 116]))) else (some false)) else (some false))
theorem qBo : qCw 400 = qE6 := by
 delta qCw qE6
 simp only [qC1, qEc, Option.bind_some]
def qFu   (a0 : (List Bool)) (a1 : Bool) (x2_5 : Int) (x8_3 : (S28 × Int)) (n : Nat) : Int → Option Bool := lp (fun _ => none) (qE6 a0 a1 x2_5 x8_3) n
theorem qCo : qD7 400 = qFu := by
 delta qD7 qFu
 simp only [qC1, qEc, Option.bind_some, qBo]
def qE7   (a0 : (List Bool)) (a1 : Bool) (a2 : Int) (x2_5 : Int) (ih : (List Nat) → Int → Option Bool) : (List Nat) → Int → Option Bool :=
 fun (y15_0 : (List Nat)) (y15_1 : Int) => if (decide (y15_1 < (a0.length : Int))) then (jn (fun (z16 : (List Nat) × Int) => (nthL a0 z16.2).bind fun x4_2 => jn (fun (z18 : (List Nat) × Int) => (catS z18.1 ([120] : List Nat)).bind fun x6_1 => ih x6_1 (fW .i64 (z18.2 + 1))) (fun j18 => if x4_2 then ((catS z16.1 ([37, 99] : List Nat)).bind fun x5_1 => (toS ([fW .u8 (97 + fW .u8 z16.2)] : List Int)).bind fun x5_6 => (catS x5_1 x5_6).bind fun x5_7 => (catS x5_7 ([10] : List Nat)).bind fun x5_8 => j18 (x5_8, z16.2)) else (j18 (z16.1, z16.2)))) (fun j16 => if (decide (0 < y15_1)) then ((catS y15_0 ([44, 32] : List Nat)).bind fun x10_1 => j16 (x10_1, y15_1)) else (j16 (y15_0, y15_1)))) else (jn (fun (z17 : (List Nat)) => (nthL g10c2 (fW .i64 ((fW .u64 a2).tmod 3))).bind fun x7_5 => (catS z17 x7_5).bind fun x8_2 => (wholeF x8_2).bind fun x8_3 => (catS z17 g10c3).bind fun x9_1 => (catS x9_1 x7_5).bind fun x9_3 => (wholeF x9_3).bind fun x9_4 => jn (fun (z19 : Bool) => if z19 then (some false) else (qFu a0 a1 x2_5 x8_3 400 0)) (fun j19 => if (!decide (x8_3.2 = 0)) then (j19 true) else (if (!decide (x9_4.2 = 8)) then (j19 true) else (j19 (!decide ((x8_3.1.f2.n : Int) = fW .i64 ((a0.length : Int) + x2_5))))))) (fun j17 => if a1 then ((catS y15_0 ([37, 116, 10] : List Nat)).bind fun x3_1 => j17 x3_1) else (j17 y15_0)))
theorem qDe : qCx 400 = qE7 := by
 delta qCx qE7
 simp only [qC1, qEc, Option.bind_some, qBo, qCo]
def qFv   (a0 : (List Bool)) (a1 : Bool) (a2 : Int) (x2_5 : Int) (n : Nat) : (List Nat) → Int → Option Bool := lp (fun _ _ => none) (qE7 a0 a1 a2 x2_5) n
theorem qI9 : qBz 400 = qFv := by
 delta qBz qFv
 simp only [qC1, qEc, Option.bind_some, qBo, qCo, qDe]
def Fg10  (a0 : (List Bool)) (a1 : Bool) (a2 : Int) : Option Bool :=
 jn (fun (z14 : Bool) => if z14 then (((some true)).bind fun x0_0 => some x0_0) else ((nthL g10c0 (fW .i64 ((fW .u64 a2).tmod 3))).bind fun x1_5 => (nthL g10c1 (fW .i64 ((fW .u64 a2).tmod 3))).bind fun x2_5 => qFv a0 a1 a2 x2_5 400 x1_5 0)) (fun j14 => if (decide ((a0.length : Int) < 1)) then (j14 true) else (j14 (decide (6 < (a0.length : Int)))))
theorem Fg10_eq : g10 400 = Fg10 := by
 delta g10 Fg10
 simp only [qC1, qEc, Option.bind_some, qBo, qCo, qDe, qI9]
end
end Go.Proofs.Ythpplbkobokghaa.Am
