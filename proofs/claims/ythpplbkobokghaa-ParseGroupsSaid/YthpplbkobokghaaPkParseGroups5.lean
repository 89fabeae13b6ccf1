/- LawParseGroups, part 5: whatever the input, the law comes out true: our texts, joined by a tool, without what the claim does not name. -/
import Derived.Test.YthpplbkobokghaaPkParseGroups4
import Derived.Below
import Derived.Test.YthpplbkobokghaaRows
import Derived.WalkKit
import Derived.ProofKit
import Derived.OpenShut
import Derived.ShutString
import Derived.ChangeOld
import Derived.SizedLaws
set_option maxRecDepth 100000
set_option linter.unusedVariables false
namespace Go.Proofs.Ythpplbkobokghaa.Am
noncomputable section
open Go
theorem i38B_all (k : Nat) (F : Fns0) (hF : FnsOk0 F) (a0 : (List Nat)) (a1 : (List S33)) (a2 : Int) (a3 : Int) (r : (Option (S28 × Int))) (h : i38B k F a0 a1 a2 a3 = some r) : CallT Try.prog 102 [.ptr 0 4 0] (mkH [⟨[.str a0, w34 a1, .i a2, .i a3], 4, false⟩]) ((Xi38 a0 a1 a2 a3).thr r) ((Xi38 a0 a1 a2 a3).enc r) ((Xi38 a0 a1 a2 a3).fin r) := by
 refine callM_of (Xi38 a0 a1 a2 a3) Try.func102 (by kernel_rfl) (by kernel_rfl) rfl (t := i38B k F a0 a1 a2 a3) ?_ h
 unfold i38B
 refine ok_env (eE := [(0, .ptr 0 4 0)]) (by kernel_rfl) ?_
 let Q1 : Blk := ⟨[.str a0, w34 a1, .i a2, .i a3], 4, false⟩
 let Q2 : Blk := ⟨[.i 0, .str [], .nils, .bool false, .bool false, .nils, .nils], 0, false⟩
 let Q3 : Blk := ⟨[.i 20, .str [], .nils, .bool false, .bool false, .nils, .nils], 7, false⟩
 refine oH 11 i38p2 [(3, .ptr 2 7 0), (7, .agg [.i 20, .str [], .nils, .bool false, .bool false, .nils, .nils]), (2, .ptr 1 7 0), (0, .ptr 0 4 0)] (mkH [Q1, Q2, Q3]) ?_
 refine ok_ghost [Q1, Q2, Q3] (by kernel_rfl) ?_
 let Q4 : Blk := ⟨(([] : List S28)).flatMap e29, 0, false⟩
 refine oHp (mkH [Q1, Q2, Q3, Q4]) ?_
 refine ok_wkH [Q1, Q2, Q3, Q4] 2 7 [.i 20, .str [], .nils, .bool false, .bool false, .nils, .nils] [.i 20, .str [], .own 3 (([] : List S28)).length 7, .bool false, .bool false, .nils, .nils] (by kernel_rfl) rfl (.cons (.cons (.none (.refl)))) ?_
 let E1 : Env := [(8, .ptr 0 4 0), (3, .ptr 2 7 0), (7, .agg [.i 20, .str [], .nils, .bool false, .bool false, .nils, .nils]), (2, .ptr 1 7 0), (0, .ptr 0 4 0)]
 let Q5 : Blk := ⟨[.i 20, .str [], .own 3 (([] : List S28)).length 7, .bool false, .bool false, .nils, .nils], 7, false⟩
 refine oH 2 (atN 1 (ctl1 i38p2)) E1 (mkH [Q1, Q2, Q5, Q4]) ?_
 refine oN (fun (x0_1 : Ri12) => w9 x0_1.1) (fun x0_1 => [⟨[.str a0, w34 a1, .i x0_1.2, .i a3], 4, false⟩, Q2, Q5, Q4]) (atN 2 (ctl1 i38p2)) 9 [0] [] [] [.ptr 0 4 0] (i12_ok k a0 a1 a2 a3) trivial (fun _ => trivial) fun x0_1 hx0_1 => ?_
 refine oR 6 (atN 1 (ctl1 i38p3)) ((10, .ptr 0 4 0) :: (4, w9 x0_1.1) :: (9, w9 x0_1.1) :: E1) ?_
 refine oN (fun (x1_1 : Bool) => .bool x1_1) (fun x1_1 => [⟨[.str a0, w34 a1, .i x0_1.2, .i a3], 4, false⟩, Q2, Q5, Q4]) (atN 2 (ctl1 i38p3)) 11 [0] [] [] [.ptr 0 4 0, .str i38c0] (i10_ok k i38c0 a0 a1 x0_1.2 a3) trivial (fun _ => trivial) fun x1_1 hx1_1 => ?_
 let E2 : Env := ((12, .bool (!x1_1)) :: (11, .bool x1_1) :: (10, .ptr 0 4 0) :: (4, w9 x0_1.1) :: (9, w9 x0_1.1) :: E1)
 refine oR 2 i38p4 E2 ?_
 refine oS 12 (fun hb => ?_) (fun hb => ?_)
 ·refine oR 7 (atN 4 (ctl1 i38p5)) ((16, .func 100 [.ptr 0 4 0] []) :: (15, .ptr 0 4 0) :: (14, w9 x0_1.1) :: (13, .ptr 0 4 0) :: (12, .bool true) :: E2) ?_
  refine oX (fun (x2_4 : Ri43) => .own 4 (x2_4.2).length 7) (fun x2_4 => [⟨[.str a0, w34 a1, .i x2_4.1, .i a3], 4, false⟩, Q2, Q5, Q4, ⟨(x2_4.2).flatMap e29, 0, false⟩]) (atN 5 (ctl1 i38p5)) 17 [0, 4] [] [0, 1] [0, 2] [0, 0, 0, 1] [.ptr 0 4 0, w9 x0_1.1, .func 100 [.ptr 0 4 0] []] (hF.i43_thr x0_1.1 a0 a1 x0_1.2 a3) (hF.i43_ok x0_1.1 a0 a1 x0_1.2 a3) trivial (fun _ => ⟨u29 _, trivial⟩) ⟨u29 _, trivial⟩ fun x2_4 hx2_4 => ?_
  let Q6 : Blk := ⟨[.i 20, .str [], .own 4 (x2_4.2).length 7, .bool false, .bool false, .nils, .nils], 7, false⟩
  let Q7 : Blk := ⟨(x2_4.2).flatMap e29, 0, false⟩
  refine oLH 3 i38p7 [(0, .ptr 0 4 0), (2, .ptr 1 7 0), (3, .ptr 2 7 0)] (mkH [⟨[.str a0, w34 a1, .i x2_4.1, .i a3], 4, false⟩, Q2, Q6, Q4, Q7]) ?_
  let E4 : Env := [(0, .ptr 0 4 0), (2, .ptr 1 7 0), (3, .ptr 2 7 0)]
  refine oR 2 (atN 1 (ctl1 i38p7)) ((19, .ptr 0 4 0) :: E4) ?_
  refine oN (fun (x3_1 : Ri12) => w9 x3_1.1) (fun x3_1 => [⟨[.str a0, w34 a1, .i x3_1.2, .i a3], 4, false⟩, Q2, Q6, Q4, Q7]) (atN 2 (ctl1 i38p7)) 20 [0] [] [] [.ptr 0 4 0] (i12_ok k a0 a1 x2_4.1 a3) trivial (fun _ => trivial) fun x3_1 hx3_1 => ?_
  refine oR 6 (atN 1 (ctl1 i38p6)) ((21, .ptr 0 4 0) :: (4, w9 x3_1.1) :: (20, w9 x3_1.1) :: (19, .ptr 0 4 0) :: E4) ?_
  refine oX (fun (x4_1 : (Bool × Int)) => .bool x4_1.1) (fun x4_1 => [⟨[.str a0, w34 a1, .i x4_1.2, .i a3], 4, false⟩, Q2, Q6, Q4, Q7]) (atN 2 (ctl1 i38p6)) 22 [0] [] [] [2] [0, 0, 0, 1, 1] [.ptr 0 4 0, .str i38c0] (i7_thr k i38c0 a0 a1 x3_1.2 a3) (i7_ok k i38c0 a0 a1 x3_1.2 a3) trivial (fun _ => trivial) ⟨u29 _, u29 _, trivial⟩ fun x4_1 hx4_1 => ?_
  let E5 : Env := ((22, .bool x4_1.1) :: (21, .ptr 0 4 0) :: (4, w9 x3_1.1) :: (20, w9 x3_1.1) :: (19, .ptr 0 4 0) :: E4)
  refine oR 1 i38p8 E5 ?_
  refine oS 22 (fun hb => ?_) (fun hb => ?_)
  ·refine oR 4 (atN 1 (ctl1 i38p9)) ((23, .ptr 0 4 0) :: (22, .bool true) :: E5) ?_
   refine oX (fun (x5_1 : (S28 × Int)) => n29 x5_1.1) (fun x5_1 => [⟨[.str a0, w34 a1, .i x5_1.2, .i a3], 4, false⟩, Q2, Q6, Q4, Q7]) (atN 2 (ctl1 i38p9)) 24 [0] [] [] [0, 2] [0, 0, 0, 1, 1] [.ptr 0 4 0, .i 1] (hF.i5_thr (1 : Int) a0 a1 x4_1.2 a3) (hF.i5_ok (1 : Int) a0 a1 x4_1.2 a3) trivial (fun _ => trivial) ⟨u29 _, u29 _, trivial⟩ fun x5_1 hx5_1 => ?_
   let Q8 : Blk := ⟨[.str a0, w34 a1, .i x5_1.2, .i a3], 4, false⟩
   refine oH 1 (atN 3 (ctl1 i38p9)) ((25, .slice 5 7 0 1 7) :: (24, n29 x5_1.1) :: (23, .ptr 0 4 0) :: (22, .bool true) :: E5) (mkH [Q8, Q2, Q6, Q4, Q7, ⟨e29 x5_1.1, 0, false⟩]) ?_
   refine oZ 25 5 1 7 [.i x5_1.1.f0, .str x5_1.1.f1, q29 x5_1.1.f2, .bool x5_1.1.f3, .bool x5_1.1.f4, w9 x5_1.1.f5, w9 x5_1.1.f6] [0, 2, 3, 4, 19, 20, 21, 22, 23, 24] [0, 0, 0, 1, 1] ⟨u29 _, u29 _, trivial⟩ ?_
   let E7 : Env := [(0, .ptr 0 4 0), (2, .ptr 1 7 0), (3, .ptr 2 7 0), (4, w9 x3_1.1), (5, .ptr 6 7 0)]
   let Q9 : Blk := ⟨[.i 23, .str [], w29 ([x5_1.1] : List S28), .bool false, .bool false, .nils, .nils], 7, false⟩
   refine oLH 5 i38p11 E7 (mkH [Q8, Q2, Q6, Q4, Q7, ⟨[], 0, false⟩, Q9]) ?_
   refine oR 4 (atN 3 (ctl1 i38p11)) ((29, .agg [.i 24, .str [], .nils, .bool false, .bool false, .nils, .nils]) :: (28, .agg [.i 23, .str [], w29 ([x5_1.1] : List S28), .bool false, .bool false, .nils, .nils]) :: (27, .ptr 0 4 0) :: E7) ?_
   refine oXW 0 [Q8, Q2, Q6, Q4, Q7, ⟨[], 0, false⟩, Q9] (fun (x6_3 : (S28 × Int)) => n29 x6_3.1) (fun x6_3 => [⟨[.str a0, w34 a1, .i x6_3.2, .i a3], 4, false⟩, Q2, Q6, Q4, Q7, ⟨[], 0, false⟩, Q9]) (atN 4 (ctl1 i38p11)) 30 [0] [] [] [0, 2] [0, 0, 0, 1, 1] [0, 0, 0, 1, 1] [.ptr 0 4 0, .str [], .agg [.i 23, .str [], w29 ([x5_1.1] : List S28), .bool false, .bool false, .nils, .nils], .agg [.i 24, .str [], .nils, .bool false, .bool false, .nils, .nils]] [.ptr 0 4 0, .str [], .agg [.i 23, .str [], w29 ([x5_1.1] : List S28), .bool false, .bool false, w9 ([] : List (List Nat)), w9 ([] : List (List Nat))], .agg [.i 24, .str [], w29 ([] : List S28), .bool false, .bool false, w9 ([] : List (List Nat)), w9 ([] : List (List Nat))]] (.cons (.cons (.agg (.cons (.cons (.cons (.cons (.cons (.nil (.nil (.refl)))))))) (.agg (.cons (.cons (.nil (.cons (.cons (.nil (.nil (.refl)))))))) (.refl))))) (hF.i47_thr ([] : List Nat) (23 : Int) ([] : List Nat) (⟨(([x5_1.1] : List S28)).length, (([x5_1.1] : List S28)).flatMap e29⟩ : Raw) false false ([] : List (List Nat)) ([] : List (List Nat)) (24 : Int) ([] : List Nat) (⟨(([] : List S28)).length, (([] : List S28)).flatMap e29⟩ : Raw) false false ([] : List (List Nat)) ([] : List (List Nat)) a0 a1 x5_1.2 a3) (hF.i47_ok ([] : List Nat) (23 : Int) ([] : List Nat) (⟨(([x5_1.1] : List S28)).length, (([x5_1.1] : List S28)).flatMap e29⟩ : Raw) false false ([] : List (List Nat)) ([] : List (List Nat)) (24 : Int) ([] : List Nat) (⟨(([] : List S28)).length, (([] : List S28)).flatMap e29⟩ : Raw) false false ([] : List (List Nat)) ([] : List (List Nat)) a0 a1 x5_1.2 a3) trivial (fun _ => trivial) ⟨u29 _, u29 _, trivial⟩ fun x6_3 hx6_3 => ?_
   let E9 : Env := [(0, .ptr 0 4 0), (2, .ptr 1 7 0), (3, .ptr 2 7 0), (6, .ptr 7 7 0)]
   let Q10 : Blk := ⟨[.str a0, w34 a1, .i x6_3.2, .i a3], 4, false⟩
   let Q11 : Blk := ⟨[.i x6_3.1.f0, .str x6_3.1.f1, q29 x6_3.1.f2, .bool x6_3.1.f3, .bool x6_3.1.f4, w9 x3_1.1, w9 x6_3.1.f6], 7, false⟩
   refine oLH 10 i38p15 E9 (mkH [Q10, Q2, Q6, Q4, Q7, ⟨[], 0, false⟩, Q9, Q11]) ?_
   let Q12 : Blk := ⟨[.i x6_3.1.f0, .str x6_3.1.f1, q29 x6_3.1.f2, .bool x6_3.1.f3, .bool x6_3.1.f4, w9 x3_1.1, w9 x6_3.1.f6], 0, false⟩
   let K1 : List Blk := [Q10, Q2, Q6, Q4, Q7, ⟨[], 0, false⟩, Q9, Q11, Q12]
   refine oH 5 (atN 4 (ctl1 i38p15)) ((36, .slice 8 7 0 1 7) :: (35, .agg [.i x6_3.1.f0, .str x6_3.1.f1, q29 x6_3.1.f2, .bool x6_3.1.f3, .bool x6_3.1.f4, w9 x3_1.1, w9 x6_3.1.f6]) :: (34, .own 4 (x2_4.2).length 7) :: (33, .ptr 2 7 2) :: E9) (mkH K1) ?_
   refine oC (fun (x7_4 : (List S28)) => (.own 4 (x7_4).length 7, (mkH [Q10, Q2, Q6, Q4, ⟨(x7_4).flatMap e29, 0, false⟩, ⟨[], 0, false⟩, Q9, Q11, Q12]))) (atN 5 (ctl1 i38p15)) 37 (appH (sz := 7) e29_len rfl e29_one K1 4 104 x2_4.2 ([(⟨x6_3.1.f0, x6_3.1.f1, x6_3.1.f2, x6_3.1.f3, x6_3.1.f4, x3_1.1, x6_3.1.f6⟩ : S28)] : List S28) rfl rfl (by kernel_rfl)) fun x7_4 hx7_4 => ?_
   let E11 : Env := [(0, .ptr 0 4 0), (2, .ptr 1 7 0), (3, .ptr 2 7 0)]
   let Q13 : Blk := ⟨[.i 20, .str i38c0, .own 4 (x7_4).length 7, .bool false, .bool false, .nils, .nils], 7, false⟩
   let Q14 : Blk := ⟨(x7_4).flatMap e29, 0, false⟩
   refine oLH 5 i38p17 E11 (mkH [Q10, Q2, Q13, Q4, Q14, ⟨[], 0, false⟩, Q9, Q11, Q12]) ?_
   refine oR 2 (atN 1 (ctl1 i38p17)) ((40, .ptr 0 4 0) :: E11) ?_
   refine oN (fun (x8_1 : Ri12) => w9 x8_1.1) (fun x8_1 => [⟨[.str a0, w34 a1, .i x8_1.2, .i a3], 4, false⟩, Q2, Q13, Q4, Q14, ⟨[], 0, false⟩, Q9, Q11, Q12]) (atN 2 (ctl1 i38p17)) 41 [0] [] [] [.ptr 0 4 0] (i12_ok k a0 a1 x6_3.2 a3) trivial (fun _ => trivial) fun x8_1 hx8_1 => ?_
   let Q15 : Blk := ⟨[.i 20, .str i38c0, .own 4 (x7_4).length 7, .bool false, .bool false, .nils, w9 x8_1.1], 7, false⟩
   refine oH 11 (atN 1 (ctl1 i38p12)) ((44, .ptr 0 4 0) :: (43, .ptr 2 7 6) :: (42, w9 x8_1.1) :: (4, w9 x8_1.1) :: (41, w9 x8_1.1) :: (40, .ptr 0 4 0) :: E11) (mkH [⟨[.str a0, w34 a1, .i x8_1.2, .i a3], 4, false⟩, Q2, Q15, Q4, Q14, ⟨[], 0, false⟩, Q9, Q11, Q12]) ?_
   refine oX (fun (x9_1 : Int) => .tuple []) (fun x9_1 => [⟨[.str a0, w34 a1, .i x9_1, .i a3], 4, false⟩, Q2, Q15, Q4, Q14, ⟨[], 0, false⟩, Q9, Q11, Q12]) (atN 2 (ctl1 i38p12)) 45 [0] [] [] [0, 2] [0, 0, 0, 1, 1] [.ptr 0 4 0, .str [101, 110, 100]] (i23_thr k ([101, 110, 100] : List Nat) a0 a1 x8_1.2 a3) (i23_ok k ([101, 110, 100] : List Nat) a0 a1 x8_1.2 a3) trivial (fun _ => trivial) ⟨u29 _, u29 _, trivial⟩ fun x9_1 hx9_1 => ?_
   refine oL 2 i38p14 [(2, .ptr 1 7 0), (3, .ptr 2 7 0)] ?_
   exact oQF 5 [⟨[.str a0, w34 a1, .i x9_1, .i a3], 4, false⟩, Q15, Q15, Q4, Q14, ⟨[], 0, false⟩, Q9, Q11, Q12] 1 [] [.agg [.i 20, .str i38c0, .own 4 (x7_4).length 7, .bool false, .bool false, .nils, w9 x8_1.1]] (.agg [.i 20, .str i38c0, w29 x7_4, .bool false, .bool false, .vec 0 1 [], w9 x8_1.1]) (.agg (.cs (.cs (fz_own e29_len e29_pur rfl rfl rfl (.cs (.cs (.nil .ps)))))) .ps) trivial
  ·let Q16 : Blk := ⟨[.i 20, .str [], .own 4 (x2_4.2).length 7, .bool false, .bool false, .nils, w9 x3_1.1], 7, false⟩
   refine oLH 9 i38p12 [(0, .ptr 0 4 0), (2, .ptr 1 7 0), (3, .ptr 2 7 0)] (mkH [⟨[.str a0, w34 a1, .i x4_1.2, .i a3], 4, false⟩, Q2, Q16, Q4, Q7]) ?_
   refine oR 2 (atN 1 (ctl1 i38p12)) ((44, .ptr 0 4 0) :: [(0, .ptr 0 4 0), (2, .ptr 1 7 0), (3, .ptr 2 7 0)]) ?_
   refine oX (fun (x9_1 : Int) => .tuple []) (fun x9_1 => [⟨[.str a0, w34 a1, .i x9_1, .i a3], 4, false⟩, Q2, Q16, Q4, Q7]) (atN 2 (ctl1 i38p12)) 45 [0] [] [] [0, 2] [0, 0, 0, 1, 1] [.ptr 0 4 0, .str [101, 110, 100]] (i23_thr k ([101, 110, 100] : List Nat) a0 a1 x4_1.2 a3) (i23_ok k ([101, 110, 100] : List Nat) a0 a1 x4_1.2 a3) trivial (fun _ => trivial) ⟨u29 _, u29 _, trivial⟩ fun x9_1 hx9_1 => ?_
   exact oQF 7 [⟨[.str a0, w34 a1, .i x9_1, .i a3], 4, false⟩, Q16, Q16, Q4, Q7] 1 [] [.agg [.i 20, .str [], .own 4 (x2_4.2).length 7, .bool false, .bool false, .nils, w9 x3_1.1]] (.agg [.i 20, .str [], w29 x2_4.2, .bool false, .bool false, .vec 0 1 [], w9 x3_1.1]) (.agg (.cs (.cs (fz_own e29_len e29_pur rfl rfl rfl (.cs (.cs (.nil .ps)))))) .ps) trivial
 ·refine oR 6 (atN 1 (ctl1 i38p6)) ((21, .ptr 0 4 0) :: (12, .bool false) :: E2) ?_
  refine oX (fun (x4_1 : (Bool × Int)) => .bool x4_1.1) (fun x4_1 => [⟨[.str a0, w34 a1, .i x4_1.2, .i a3], 4, false⟩, Q2, Q5, Q4]) (atN 2 (ctl1 i38p6)) 22 [0] [] [] [2] [0, 0, 0, 1] [.ptr 0 4 0, .str i38c0] (i7_thr k i38c0 a0 a1 x0_1.2 a3) (i7_ok k i38c0 a0 a1 x0_1.2 a3) trivial (fun _ => trivial) ⟨u29 _, trivial⟩ fun x4_1 hx4_1 => ?_
  refine oL 1 i38p8 [(0, .ptr 0 4 0), (2, .ptr 1 7 0), (3, .ptr 2 7 0), (4, w9 x0_1.1), (22, .bool x4_1.1)] ?_
  let E15 : Env := [(0, .ptr 0 4 0), (2, .ptr 1 7 0), (3, .ptr 2 7 0), (4, w9 x0_1.1), (22, .bool x4_1.1)]
  refine oS 22 (fun hb => ?_) (fun hb => ?_)
  ·refine oR 4 (atN 1 (ctl1 i38p9)) ((23, .ptr 0 4 0) :: (22, .bool true) :: E15) ?_
   refine oX (fun (x5_1 : (S28 × Int)) => n29 x5_1.1) (fun x5_1 => [⟨[.str a0, w34 a1, .i x5_1.2, .i a3], 4, false⟩, Q2, Q5, Q4]) (atN 2 (ctl1 i38p9)) 24 [0] [] [] [0, 2] [0, 0, 0, 1] [.ptr 0 4 0, .i 1] (hF.i5_thr (1 : Int) a0 a1 x4_1.2 a3) (hF.i5_ok (1 : Int) a0 a1 x4_1.2 a3) trivial (fun _ => trivial) ⟨u29 _, trivial⟩ fun x5_1 hx5_1 => ?_
   let Q17 : Blk := ⟨[.str a0, w34 a1, .i x5_1.2, .i a3], 4, false⟩
   refine oH 1 (atN 3 (ctl1 i38p9)) ((25, .slice 4 7 0 1 7) :: (24, n29 x5_1.1) :: (23, .ptr 0 4 0) :: (22, .bool true) :: E15) (mkH [Q17, Q2, Q5, Q4, ⟨e29 x5_1.1, 0, false⟩]) ?_
   refine oZ 25 4 1 7 [.i x5_1.1.f0, .str x5_1.1.f1, q29 x5_1.1.f2, .bool x5_1.1.f3, .bool x5_1.1.f4, w9 x5_1.1.f5, w9 x5_1.1.f6] [0, 2, 3, 4, 22, 23, 24] [0, 0, 0, 1] ⟨u29 _, trivial⟩ ?_
   let Q18 : Blk := ⟨[.i 23, .str [], w29 ([x5_1.1] : List S28), .bool false, .bool false, .nils, .nils], 7, false⟩
   refine oH 9 (atN 3 (ctl1 i38p11)) [(29, .agg [.i 24, .str [], .nils, .bool false, .bool false, .nils, .nils]), (28, .agg [.i 23, .str [], w29 ([x5_1.1] : List S28), .bool false, .bool false, .nils, .nils]), (27, .ptr 0 4 0), (5, .ptr 5 7 0), (26, .agg [.i 23, .str [], w29 ([x5_1.1] : List S28), .bool false, .bool false, .nils, .nils]), (25, w29 ([x5_1.1] : List S28)), (0, .ptr 0 4 0), (2, .ptr 1 7 0), (3, .ptr 2 7 0), (4, w9 x0_1.1), (22, .bool true), (23, .ptr 0 4 0), (24, n29 x5_1.1)] (mkH [Q17, Q2, Q5, Q4, ⟨[], 0, false⟩, Q18]) ?_
   refine oXW 0 [Q17, Q2, Q5, Q4, ⟨[], 0, false⟩, Q18] (fun (x6_3 : (S28 × Int)) => n29 x6_3.1) (fun x6_3 => [⟨[.str a0, w34 a1, .i x6_3.2, .i a3], 4, false⟩, Q2, Q5, Q4, ⟨[], 0, false⟩, Q18]) (atN 4 (ctl1 i38p11)) 30 [0] [] [] [0, 2] [0, 0, 0, 1] [0, 0, 0, 1] [.ptr 0 4 0, .str [], .agg [.i 23, .str [], w29 ([x5_1.1] : List S28), .bool false, .bool false, .nils, .nils], .agg [.i 24, .str [], .nils, .bool false, .bool false, .nils, .nils]] [.ptr 0 4 0, .str [], .agg [.i 23, .str [], w29 ([x5_1.1] : List S28), .bool false, .bool false, w9 ([] : List (List Nat)), w9 ([] : List (List Nat))], .agg [.i 24, .str [], w29 ([] : List S28), .bool false, .bool false, w9 ([] : List (List Nat)), w9 ([] : List (List Nat))]] (.cons (.cons (.agg (.cons (.cons (.cons (.cons (.cons (.nil (.nil (.refl)))))))) (.agg (.cons (.cons (.nil (.cons (.cons (.nil (.nil (.refl)))))))) (.refl))))) (hF.i47_thr ([] : List Nat) (23 : Int) ([] : List Nat) (⟨(([x5_1.1] : List S28)).length, (([x5_1.1] : List S28)).flatMap e29⟩ : Raw) false false ([] : List (List Nat)) ([] : List (List Nat)) (24 : Int) ([] : List Nat) (⟨(([] : List S28)).length, (([] : List S28)).flatMap e29⟩ : Raw) false false ([] : List (List Nat)) ([] : List (List Nat)) a0 a1 x5_1.2 a3) (hF.i47_ok ([] : List Nat) (23 : Int) ([] : List Nat) (⟨(([x5_1.1] : List S28)).length, (([x5_1.1] : List S28)).flatMap e29⟩ : Raw) false false ([] : List (List Nat)) ([] : List (List Nat)) (24 : Int) ([] : List Nat) (⟨(([] : List S28)).length, (([] : List S28)).flatMap e29⟩ : Raw) false false ([] : List (List Nat)) ([] : List (List Nat)) a0 a1 x5_1.2 a3) trivial (fun _ => trivial) ⟨u29 _, trivial⟩ fun x6_3 hx6_3 => ?_
   let Q19 : Blk := ⟨[.str a0, w34 a1, .i x6_3.2, .i a3], 4, false⟩
   refine oLH 4 i38p13 [(0, .ptr 0 4 0), (2, .ptr 1 7 0), (3, .ptr 2 7 0), (4, w9 x0_1.1), (6, .ptr 6 7 0)] (mkH [Q19, Q2, Q5, Q4, ⟨[], 0, false⟩, Q18, ⟨e29 x6_3.1, 7, false⟩]) ?_
   let Q20 : Blk := ⟨[.i x6_3.1.f0, .str x6_3.1.f1, q29 x6_3.1.f2, .bool x6_3.1.f3, .bool x6_3.1.f4, w9 x0_1.1, w9 x6_3.1.f6], 7, false⟩
   let Q21 : Blk := ⟨[.i x6_3.1.f0, .str x6_3.1.f1, q29 x6_3.1.f2, .bool x6_3.1.f3, .bool x6_3.1.f4, w9 x0_1.1, w9 x6_3.1.f6], 0, false⟩
   refine oH 11 (atN 4 (ctl1 i38p15)) ((36, .slice 7 7 0 1 7) :: (35, .agg [.i x6_3.1.f0, .str x6_3.1.f1, q29 x6_3.1.f2, .bool x6_3.1.f3, .bool x6_3.1.f4, w9 x0_1.1, w9 x6_3.1.f6]) :: (34, .own 3 (([] : List S28)).length 7) :: (33, .ptr 2 7 2) :: (32, .ptr 6 7 5) :: (31, w9 x0_1.1) :: [(0, .ptr 0 4 0), (2, .ptr 1 7 0), (3, .ptr 2 7 0), (4, w9 x0_1.1), (6, .ptr 6 7 0)]) (mkH [Q19, Q2, Q5, Q4, ⟨[], 0, false⟩, Q18, Q20, Q21]) ?_
   refine oC (fun (x7_4 : (List S28)) => (.own 3 (x7_4).length 7, (mkH [Q19, Q2, Q5, ⟨(x7_4).flatMap e29, 0, false⟩, ⟨[], 0, false⟩, Q18, Q20, Q21]))) (atN 5 (ctl1 i38p15)) 37 (appH (sz := 7) e29_len rfl e29_one [Q19, Q2, Q5, Q4, ⟨[], 0, false⟩, Q18, Q20, Q21] 3 104 ([] : List S28) ([(⟨x6_3.1.f0, x6_3.1.f1, x6_3.1.f2, x6_3.1.f3, x6_3.1.f4, x0_1.1, x6_3.1.f6⟩ : S28)] : List S28) rfl rfl (by kernel_rfl)) fun x7_4 hx7_4 => ?_
   let Q22 : Blk := ⟨[.i 20, .str i38c0, .own 3 (x7_4).length 7, .bool false, .bool false, .nils, .nils], 7, false⟩
   let Q23 : Blk := ⟨(x7_4).flatMap e29, 0, false⟩
   refine oLH 5 i38p17 [(0, .ptr 0 4 0), (2, .ptr 1 7 0), (3, .ptr 2 7 0)] (mkH [Q19, Q2, Q22, Q23, ⟨[], 0, false⟩, Q18, Q20, Q21]) ?_
   let E19 : Env := [(0, .ptr 0 4 0), (2, .ptr 1 7 0), (3, .ptr 2 7 0)]
   refine oR 2 (atN 1 (ctl1 i38p17)) ((40, .ptr 0 4 0) :: E19) ?_
   refine oN (fun (x8_1 : Ri12) => w9 x8_1.1) (fun x8_1 => [⟨[.str a0, w34 a1, .i x8_1.2, .i a3], 4, false⟩, Q2, Q22, Q23, ⟨[], 0, false⟩, Q18, Q20, Q21]) (atN 2 (ctl1 i38p17)) 41 [0] [] [] [.ptr 0 4 0] (i12_ok k a0 a1 x6_3.2 a3) trivial (fun _ => trivial) fun x8_1 hx8_1 => ?_
   let Q24 : Blk := ⟨[.i 20, .str i38c0, .own 3 (x7_4).length 7, .bool false, .bool false, .nils, w9 x8_1.1], 7, false⟩
   refine oH 11 (atN 1 (ctl1 i38p12)) ((44, .ptr 0 4 0) :: (43, .ptr 2 7 6) :: (42, w9 x8_1.1) :: (4, w9 x8_1.1) :: (41, w9 x8_1.1) :: (40, .ptr 0 4 0) :: E19) (mkH [⟨[.str a0, w34 a1, .i x8_1.2, .i a3], 4, false⟩, Q2, Q24, Q23, ⟨[], 0, false⟩, Q18, Q20, Q21]) ?_
   refine oX (fun (x9_1 : Int) => .tuple []) (fun x9_1 => [⟨[.str a0, w34 a1, .i x9_1, .i a3], 4, false⟩, Q2, Q24, Q23, ⟨[], 0, false⟩, Q18, Q20, Q21]) (atN 2 (ctl1 i38p12)) 45 [0] [] [] [0, 2] [0, 0, 0, 1] [.ptr 0 4 0, .str [101, 110, 100]] (i23_thr k ([101, 110, 100] : List Nat) a0 a1 x8_1.2 a3) (i23_ok k ([101, 110, 100] : List Nat) a0 a1 x8_1.2 a3) trivial (fun _ => trivial) ⟨u29 _, trivial⟩ fun x9_1 hx9_1 => ?_
   refine oL 2 i38p14 [(2, .ptr 1 7 0), (3, .ptr 2 7 0)] ?_
   exact oQF 5 [⟨[.str a0, w34 a1, .i x9_1, .i a3], 4, false⟩, Q24, Q24, Q23, ⟨[], 0, false⟩, Q18, Q20, Q21] 1 [] [.agg [.i 20, .str i38c0, .own 3 (x7_4).length 7, .bool false, .bool false, .nils, w9 x8_1.1]] (.agg [.i 20, .str i38c0, w29 x7_4, .bool false, .bool false, .vec 0 1 [], w9 x8_1.1]) (.agg (.cs (.cs (fz_own e29_len e29_pur rfl rfl rfl (.cs (.cs (.nil .ps)))))) .ps) trivial
  ·let Q25 : Blk := ⟨[.i 20, .str [], .own 3 (([] : List S28)).length 7, .bool false, .bool false, .nils, w9 x0_1.1], 7, false⟩
   refine oH 11 (atN 1 (ctl1 i38p12)) ((44, .ptr 0 4 0) :: (43, .ptr 2 7 6) :: (42, w9 x0_1.1) :: (22, .bool false) :: E15) (mkH [⟨[.str a0, w34 a1, .i x4_1.2, .i a3], 4, false⟩, Q2, Q25, Q4]) ?_
   refine oX (fun (x9_1 : Int) => .tuple []) (fun x9_1 => [⟨[.str a0, w34 a1, .i x9_1, .i a3], 4, false⟩, Q2, Q25, Q4]) (atN 2 (ctl1 i38p12)) 45 [0] [] [] [0, 2] [0, 0, 0, 1] [.ptr 0 4 0, .str [101, 110, 100]] (i23_thr k ([101, 110, 100] : List Nat) a0 a1 x4_1.2 a3) (i23_ok k ([101, 110, 100] : List Nat) a0 a1 x4_1.2 a3) trivial (fun _ => trivial) ⟨u29 _, trivial⟩ fun x9_1 hx9_1 => ?_
   refine oL 2 i38p14 [(2, .ptr 1 7 0), (3, .ptr 2 7 0)] ?_
   exact oQF 5 [⟨[.str a0, w34 a1, .i x9_1, .i a3], 4, false⟩, Q25, Q25, Q4] 1 [] [.agg [.i 20, .str [], .own 3 (([] : List S28)).length 7, .bool false, .bool false, .nils, w9 x0_1.1]] (.agg [.i 20, .str [], w29 ([] : List S28), .bool false, .bool false, .vec 0 1 [], w9 x0_1.1]) (.agg (.cs (.cs (fz_own e29_len e29_pur rfl rfl rfl (.cs (.cs (.nil .ps)))))) .ps) trivial
theorem i38B_ok (k : Nat) (F : Fns0) (hF : FnsOk0 F) : Pi38 (i38B k F) := fun a0 a1 a2 a3 x h => i38B_all k F hF a0 a1 a2 a3 (some x) h
theorem i38B_thr (k : Nat) (F : Fns0) (hF : FnsOk0 F) : Qi38 (i38B k F) := fun a0 a1 a2 a3 h => ⟨_, i38B_all k F hF a0 a1 a2 a3 none h⟩
end
end Go.Proofs.Ythpplbkobokghaa.Am
set_option maxRecDepth 100000
set_option linter.unusedVariables false
namespace Go.Proofs.Ythpplbkobokghaa.Am
noncomputable section
open Go
def Xi40 (a0 : (List (List Nat))) (a1 : (List Nat)) (a2 : (List S33)) (a3 : Int) (a4 : Int) : Fx (Option Ri40) := ⟨Try.prog, cx, Try.f105, fun r => match r with | some r => w29 r.1 | none => .top, 2, fun r => match r with | some r => (mkH [⟨[.str a1, w34 a2, .i r.2, .i a4], 4, false⟩, ⟨[.ptr 0 4 0], 1, false⟩]) | none => (mkH [⟨[.str a1, w34 a2, .i a3, .i a4], 4, false⟩, ⟨[.ptr 0 4 0], 1, false⟩]), cxTi, cxOrd, fun r => match r with | some _ => none | none => some (thrown, [0, 1]), false⟩
def i40p0 : Pt := nav [0] (bodyAt Try.f105)
def i40p1 : Pt := nav [0, 0, 0, 0] i40p0
def i40p2 : Pt := nav [0, 0, 0, 0, 0] i40p1
def i40p3 : Pt := nav [0, 0, 0] i40p2
def i40p4 : Pt := nav [0, 0, 0] i40p3
def i40p5 : Pt := nav [0, 0, 0, 0] i40p4
def i40p6 : Pt := nav [0, 0] i40p5
def i40p7 : Pt := nav [1, 0] i40p6
def i40_l4B (k : Nat) (F : Fns0)  (a1 : (List Nat)) (a2 : (List S33)) (a4 : Int) (ih : (List (List Nat)) → Int → (List S28) → Option (Option Ri40)) : (List (List Nat)) → Int → (List S28) → Option (Option Ri40) :=
 fun (y4_0 : (List (List Nat))) (y4_1 : Int) (y4_2 : (List S28)) => bT (F.i44 a1 a2 y4_1 a4) fun x0_1 => (appS 104 y4_2 ([(⟨x0_1.1.f0, x0_1.1.f1, x0_1.1.f2, x0_1.1.f3, x0_1.1.f4, y4_0, x0_1.1.f6⟩ : S28)] : List S28)).bind fun x1_3 => bT (i7 k ([59] : List Nat) a1 a2 x0_1.2 a4) fun x2_1 => if x2_1.1 then ((i12 k a1 a2 x2_1.2 a4).bind fun x3_1 => ih x3_1.1 x3_1.2 x1_3) else (some (some (x1_3, x2_1.2)))
def i40_l4 (k : Nat) (F : Fns0)  (a1 : (List Nat)) (a2 : (List S33)) (a4 : Int) (n : Nat) : (List (List Nat)) → Int → (List S28) → Option (Option Ri40) := lp (fun _ _ _ => none) (i40_l4B k F a1 a2 a4) n
theorem i40_l4_ok (k : Nat) (F : Fns0) (hF : FnsOk0 F) (a0 : (List (List Nat))) (a1 : (List Nat)) (a2 : (List S33)) (a3 : Int) (a4 : Int)    : ∀ (n : Nat) (y4_0 : (List (List Nat))) (y4_1 : Int) (y4_2 : (List S28)), Ok (Xi40 a0 a1 a2 a3 a4) i40p2 [(0, .ptr 0 4 0), (1, w9 y4_0), (2, .func 106 [] [.ptr 1 1 0]), (7, .own 2 (y4_2).length 7)] (mkH [⟨[.str a1, w34 a2, .i y4_1, .i a4], 4, false⟩, ⟨[.ptr 0 4 0], 1, false⟩, ⟨(y4_2).flatMap e29, 0, false⟩]) (i40_l4 k F a1 a2 a4 n y4_0 y4_1 y4_2) := by
 intro n
 induction n with
 | zero => intro y4_0 y4_1 y4_2; exact ok_none
 | succ n ih =>
  intro y4_0 y4_1 y4_2
  show Ok _ _ _ _ (i40_l4B k F a1 a2 a4 (i40_l4 k F a1 a2 a4 n) y4_0 y4_1 y4_2)
  unfold i40_l4B
  let E2 : Env := [(9, .func 106 [] [.ptr 1 1 0]), (0, .ptr 0 4 0), (1, w9 y4_0), (2, .func 106 [] [.ptr 1 1 0]), (7, .own 2 (y4_2).length 7)]
  let Q1 : Blk := ⟨(y4_2).flatMap e29, 0, false⟩
  refine oH 2 (atN 1 (ctl1 i40p2)) E2 (mkH [⟨[.str a1, w34 a2, .i y4_1, .i a4], 4, false⟩, ⟨[.ptr 0 4 0], 1, false⟩, Q1]) ?_
  refine oX (fun (x0_1 : (S28 × Int)) => n29 x0_1.1) (fun x0_1 => [⟨[.str a1, w34 a2, .i x0_1.2, .i a4], 4, false⟩, ⟨[.ptr 0 4 0], 1, false⟩, Q1]) (atN 2 (ctl1 i40p2)) 10 [0, 1] [] [] [0, 1] [0, 0, 1] [.ptr 1 1 0] (hF.i44_thr a1 a2 y4_1 a4) (hF.i44_ok a1 a2 y4_1 a4) trivial (fun _ => trivial) ⟨u29 _, trivial⟩ fun x0_1 hx0_1 => ?_
  let Q2 : Blk := ⟨[.str a1, w34 a2, .i x0_1.2, .i a4], 4, false⟩
  let Q3 : Blk := ⟨[.i x0_1.1.f0, .str x0_1.1.f1, q29 x0_1.1.f2, .bool x0_1.1.f3, .bool x0_1.1.f4, w9 y4_0, w9 x0_1.1.f6], 7, false⟩
  let Q4 : Blk := ⟨[.i x0_1.1.f0, .str x0_1.1.f1, q29 x0_1.1.f2, .bool x0_1.1.f3, .bool x0_1.1.f4, w9 y4_0, w9 x0_1.1.f6], 0, false⟩
  refine oH 14 (atN 3 (ctl1 i40p4)) ((15, .slice 4 7 0 1 7) :: (14, .agg [.i x0_1.1.f0, .str x0_1.1.f1, q29 x0_1.1.f2, .bool x0_1.1.f3, .bool x0_1.1.f4, w9 y4_0, w9 x0_1.1.f6]) :: (13, .own 2 (y4_2).length 7) :: (12, .ptr 3 7 5) :: (11, w9 y4_0) :: (8, .ptr 3 7 0) :: (10, n29 x0_1.1) :: E2) (mkH [Q2, ⟨[.ptr 0 4 0], 1, false⟩, Q1, Q3, Q4]) ?_
  refine oC (fun (x1_3 : (List S28)) => (.own 2 (x1_3).length 7, (mkH [Q2, ⟨[.ptr 0 4 0], 1, false⟩, ⟨(x1_3).flatMap e29, 0, false⟩, Q3, Q4]))) (atN 4 (ctl1 i40p4)) 16 (appH (sz := 7) e29_len rfl e29_one [Q2, ⟨[.ptr 0 4 0], 1, false⟩, Q1, Q3, Q4] 2 104 y4_2 ([(⟨x0_1.1.f0, x0_1.1.f1, x0_1.1.f2, x0_1.1.f3, x0_1.1.f4, y4_0, x0_1.1.f6⟩ : S28)] : List S28) rfl rfl (by kernel_rfl)) fun x1_3 hx1_3 => ?_
  let Q5 : Blk := ⟨(x1_3).flatMap e29, 0, false⟩
  refine oLH 4 i40p5 [(0, .ptr 0 4 0), (2, .func 106 [] [.ptr 1 1 0]), (7, .own 2 (x1_3).length 7)] (mkH [Q2, ⟨[.ptr 0 4 0], 1, false⟩, Q5, Q3, Q4]) ?_
  let E4 : Env := [(0, .ptr 0 4 0), (2, .func 106 [] [.ptr 1 1 0]), (7, .own 2 (x1_3).length 7)]
  refine oR 2 (atN 1 (ctl1 i40p5)) ((17, .ptr 0 4 0) :: E4) ?_
  refine oX (fun (x2_1 : (Bool × Int)) => .bool x2_1.1) (fun x2_1 => [⟨[.str a1, w34 a2, .i x2_1.2, .i a4], 4, false⟩, ⟨[.ptr 0 4 0], 1, false⟩, Q5, Q3, Q4]) (atN 2 (ctl1 i40p5)) 18 [0] [] [] [1] [0, 0, 1] [.ptr 0 4 0, .str [59]] (i7_thr k ([59] : List Nat) a1 a2 x0_1.2 a4) (i7_ok k ([59] : List Nat) a1 a2 x0_1.2 a4) trivial (fun _ => trivial) ⟨u29 _, trivial⟩ fun x2_1 hx2_1 => ?_
  refine oR 1 i40p6 ((18, .bool x2_1.1) :: (17, .ptr 0 4 0) :: E4) ?_
  refine oS 18 (fun hb => ?_) (fun hb => ?_)
  ·refine oR 4 (atN 1 (ctl1 i40p7)) ((19, .ptr 0 4 0) :: (18, .bool true) :: (18, .bool x2_1.1) :: (17, .ptr 0 4 0) :: E4) ?_
   refine oN (fun (x3_1 : Ri12) => w9 x3_1.1) (fun x3_1 => [⟨[.str a1, w34 a2, .i x3_1.2, .i a4], 4, false⟩, ⟨[.ptr 0 4 0], 1, false⟩, Q5, Q3, Q4]) (atN 2 (ctl1 i40p7)) 20 [0] [] [] [.ptr 0 4 0] (i12_ok k a1 a2 x2_1.2 a4) trivial (fun _ => trivial) fun x3_1 hx3_1 => ?_
   refine oL 6 i40p2 [(0, .ptr 0 4 0), (1, w9 x3_1.1), (2, .func 106 [] [.ptr 1 1 0]), (7, .own 2 (x1_3).length 7)] ?_
   refine ok_cut [⟨[.str a1, w34 a2, .i x3_1.2, .i a4], 4, false⟩, ⟨[.ptr 0 4 0], 1, false⟩, Q5] [Q3, Q4] (by kernel_rfl) rfl (by kernel_rfl) ⟨(by kernel_rfl), ⟨(by kernel_rfl), ⟨(purs_belows _ (u29 _)), trivial⟩⟩⟩ ?_
   exact ih x3_1.1 x3_1.2 x1_3
  ·exact oQF 8 [⟨[.str a1, w34 a2, .i x2_1.2, .i a4], 4, false⟩, ⟨[.ptr 0 4 0], 1, false⟩, Q5, Q3, Q4] 2 [] [.own 2 (x1_3).length 7] (w29 x1_3) (fz_own e29_len e29_pur rfl rfl rfl .ps) trivial
def i40B (k : Nat) (F : Fns0) (a0 : (List (List Nat))) (a1 : (List Nat)) (a2 : (List S33)) (a3 : Int) (a4 : Int) : Option (Option Ri40) :=
 i40_l4 k F a1 a2 a4 k a0 a3 ([] : List S28)
theorem i40B_all (k : Nat) (F : Fns0) (hF : FnsOk0 F) (a0 : (List (List Nat))) (a1 : (List Nat)) (a2 : (List S33)) (a3 : Int) (a4 : Int) (r : (Option Ri40)) (h : i40B k F a0 a1 a2 a3 a4 = some r) : CallT Try.prog 105 [.ptr 0 4 0, w9 a0, .func 106 [] [.ptr 1 1 0]] (mkH [⟨[.str a1, w34 a2, .i a3, .i a4], 4, false⟩, ⟨[.ptr 0 4 0], 1, false⟩]) ((Xi40 a0 a1 a2 a3 a4).thr r) ((Xi40 a0 a1 a2 a3 a4).enc r) ((Xi40 a0 a1 a2 a3 a4).fin r) := by
 refine callM_of (Xi40 a0 a1 a2 a3 a4) Try.func105 (by kernel_rfl) (by kernel_rfl) rfl (t := i40B k F a0 a1 a2 a3 a4) ?_ h
 unfold i40B
 refine ok_env (eE := [(0, .ptr 0 4 0), (1, w9 a0), (2, .func 106 [] [.ptr 1 1 0])]) (by kernel_rfl) ?_
 let E1 : Env := [(7, .nils), (6, .nils), (0, .ptr 0 4 0), (1, w9 a0), (2, .func 106 [] [.ptr 1 1 0])]
 let Q1 : Blk := ⟨[.str a1, w34 a2, .i a3, .i a4], 4, false⟩
 refine oH 8 (atN 1 (ctl1 i40p1)) E1 (mkH [Q1, ⟨[.ptr 0 4 0], 1, false⟩]) ?_
 refine ok_own [Q1, ⟨[.ptr 0 4 0], 1, false⟩] 7 7 rfl (by kernel_rfl) ?_
 refine oH 4 i40p2 ((7, .own 2 (([] : List S28)).length 7) :: E1) (mkH [Q1, ⟨[.ptr 0 4 0], 1, false⟩, ⟨(([] : List S28)).flatMap e29, 0, false⟩]) ?_
 refine oK [0, 1, 2, 7] [(0, .ptr 0 4 0), (1, w9 a0), (2, .func 106 [] [.ptr 1 1 0]), (7, .own 2 (([] : List S28)).length 7)] ?_
 exact (i40_l4_ok k F hF a0 a1 a2 a3 a4 k) a0 a3 ([] : List S28)
theorem i40B_ok (k : Nat) (F : Fns0) (hF : FnsOk0 F) : Pi40 (i40B k F) := fun a0 a1 a2 a3 a4 x h => i40B_all k F hF a0 a1 a2 a3 a4 (some x) h
theorem i40B_thr (k : Nat) (F : Fns0) (hF : FnsOk0 F) : Qi40 (i40B k F) := fun a0 a1 a2 a3 a4 h => ⟨_, i40B_all k F hF a0 a1 a2 a3 a4 none h⟩
end
end Go.Proofs.Ythpplbkobokghaa.Am
set_option maxRecDepth 100000
set_option linter.unusedVariables false
namespace Go.Proofs.Ythpplbkobokghaa.Am
noncomputable section
open Go
def Xi41 (a0 : (List (List Nat))) (a1 : (List Nat)) (a2 : (List S33)) (a3 : Int) (a4 : Int) : Fx (Option Ri41) := ⟨Try.prog, cx, Try.f105, fun r => match r with | some r => w29 r.1 | none => .top, 1, fun r => match r with | some r => (mkH [⟨[.str a1, w34 a2, .i r.2, .i a4], 4, false⟩]) | none => (mkH [⟨[.str a1, w34 a2, .i a3, .i a4], 4, false⟩]), cxTi, cxOrd, fun r => match r with | some _ => none | none => some (thrown, [0]), false⟩
def i41p0 : Pt := nav [0] (bodyAt Try.f105)
def i41p1 : Pt := nav [0, 0, 0, 0] i41p0
def i41p2 : Pt := nav [0, 0, 0, 0, 0] i41p1
def i41p3 : Pt := nav [0, 0, 0] i41p2
def i41p4 : Pt := nav [0, 0, 0] i41p3
def i41p5 : Pt := nav [0, 0, 0, 0] i41p4
def i41p6 : Pt := nav [0, 0] i41p5
def i41p7 : Pt := nav [1, 0] i41p6
def i41_l4B (k : Nat) (F : Fns0)  (a1 : (List Nat)) (a2 : (List S33)) (a4 : Int) (ih : (List (List Nat)) → Int → (List S28) → Option (Option Ri41)) : (List (List Nat)) → Int → (List S28) → Option (Option Ri41) :=
 fun (y4_0 : (List (List Nat))) (y4_1 : Int) (y4_2 : (List S28)) => bT (F.i45 a1 a2 y4_1 a4) fun x0_1 => (appS 104 y4_2 ([(⟨x0_1.1.f0, x0_1.1.f1, x0_1.1.f2, x0_1.1.f3, x0_1.1.f4, y4_0, x0_1.1.f6⟩ : S28)] : List S28)).bind fun x1_3 => bT (i7 k ([59] : List Nat) a1 a2 x0_1.2 a4) fun x2_1 => if x2_1.1 then ((i12 k a1 a2 x2_1.2 a4).bind fun x3_1 => ih x3_1.1 x3_1.2 x1_3) else (some (some (x1_3, x2_1.2)))
def i41_l4 (k : Nat) (F : Fns0)  (a1 : (List Nat)) (a2 : (List S33)) (a4 : Int) (n : Nat) : (List (List Nat)) → Int → (List S28) → Option (Option Ri41) := lp (fun _ _ _ => none) (i41_l4B k F a1 a2 a4) n
theorem i41_l4_ok (k : Nat) (F : Fns0) (hF : FnsOk0 F) (a0 : (List (List Nat))) (a1 : (List Nat)) (a2 : (List S33)) (a3 : Int) (a4 : Int)    : ∀ (n : Nat) (y4_0 : (List (List Nat))) (y4_1 : Int) (y4_2 : (List S28)), Ok (Xi41 a0 a1 a2 a3 a4) i41p2 [(0, .ptr 0 4 0), (1, w9 y4_0), (2, .func 100 [.ptr 0 4 0] []), (7, .own 1 (y4_2).length 7)] (mkH [⟨[.str a1, w34 a2, .i y4_1, .i a4], 4, false⟩, ⟨(y4_2).flatMap e29, 0, false⟩]) (i41_l4 k F a1 a2 a4 n y4_0 y4_1 y4_2) := by
 intro n
 induction n with
 | zero => intro y4_0 y4_1 y4_2; exact ok_none
 | succ n ih =>
  intro y4_0 y4_1 y4_2
  show Ok _ _ _ _ (i41_l4B k F a1 a2 a4 (i41_l4 k F a1 a2 a4 n) y4_0 y4_1 y4_2)
  unfold i41_l4B
  let E2 : Env := [(9, .func 100 [.ptr 0 4 0] []), (0, .ptr 0 4 0), (1, w9 y4_0), (2, .func 100 [.ptr 0 4 0] []), (7, .own 1 (y4_2).length 7)]
  let Q1 : Blk := ⟨(y4_2).flatMap e29, 0, false⟩
  refine oH 2 (atN 1 (ctl1 i41p2)) E2 (mkH [⟨[.str a1, w34 a2, .i y4_1, .i a4], 4, false⟩, Q1]) ?_
  refine oX (fun (x0_1 : (S28 × Int)) => n29 x0_1.1) (fun x0_1 => [⟨[.str a1, w34 a2, .i x0_1.2, .i a4], 4, false⟩, Q1]) (atN 2 (ctl1 i41p2)) 10 [0] [] [] [0] [0, 1] [.ptr 0 4 0] (hF.i45_thr a1 a2 y4_1 a4) (hF.i45_ok a1 a2 y4_1 a4) trivial (fun _ => trivial) ⟨u29 _, trivial⟩ fun x0_1 hx0_1 => ?_
  let Q2 : Blk := ⟨[.str a1, w34 a2, .i x0_1.2, .i a4], 4, false⟩
  let Q3 : Blk := ⟨[.i x0_1.1.f0, .str x0_1.1.f1, q29 x0_1.1.f2, .bool x0_1.1.f3, .bool x0_1.1.f4, w9 y4_0, w9 x0_1.1.f6], 7, false⟩
  let Q4 : Blk := ⟨[.i x0_1.1.f0, .str x0_1.1.f1, q29 x0_1.1.f2, .bool x0_1.1.f3, .bool x0_1.1.f4, w9 y4_0, w9 x0_1.1.f6], 0, false⟩
  refine oH 14 (atN 3 (ctl1 i41p4)) ((15, .slice 3 7 0 1 7) :: (14, .agg [.i x0_1.1.f0, .str x0_1.1.f1, q29 x0_1.1.f2, .bool x0_1.1.f3, .bool x0_1.1.f4, w9 y4_0, w9 x0_1.1.f6]) :: (13, .own 1 (y4_2).length 7) :: (12, .ptr 2 7 5) :: (11, w9 y4_0) :: (8, .ptr 2 7 0) :: (10, n29 x0_1.1) :: E2) (mkH [Q2, Q1, Q3, Q4]) ?_
  refine oC (fun (x1_3 : (List S28)) => (.own 1 (x1_3).length 7, (mkH [Q2, ⟨(x1_3).flatMap e29, 0, false⟩, Q3, Q4]))) (atN 4 (ctl1 i41p4)) 16 (appH (sz := 7) e29_len rfl e29_one [Q2, Q1, Q3, Q4] 1 104 y4_2 ([(⟨x0_1.1.f0, x0_1.1.f1, x0_1.1.f2, x0_1.1.f3, x0_1.1.f4, y4_0, x0_1.1.f6⟩ : S28)] : List S28) rfl rfl (by kernel_rfl)) fun x1_3 hx1_3 => ?_
  let Q5 : Blk := ⟨(x1_3).flatMap e29, 0, false⟩
  refine oLH 4 i41p5 [(0, .ptr 0 4 0), (2, .func 100 [.ptr 0 4 0] []), (7, .own 1 (x1_3).length 7)] (mkH [Q2, Q5, Q3, Q4]) ?_
  let E4 : Env := [(0, .ptr 0 4 0), (2, .func 100 [.ptr 0 4 0] []), (7, .own 1 (x1_3).length 7)]
  refine oR 2 (atN 1 (ctl1 i41p5)) ((17, .ptr 0 4 0) :: E4) ?_
  refine oX (fun (x2_1 : (Bool × Int)) => .bool x2_1.1) (fun x2_1 => [⟨[.str a1, w34 a2, .i x2_1.2, .i a4], 4, false⟩, Q5, Q3, Q4]) (atN 2 (ctl1 i41p5)) 18 [0] [] [] [] [0, 1] [.ptr 0 4 0, .str [59]] (i7_thr k ([59] : List Nat) a1 a2 x0_1.2 a4) (i7_ok k ([59] : List Nat) a1 a2 x0_1.2 a4) trivial (fun _ => trivial) ⟨u29 _, trivial⟩ fun x2_1 hx2_1 => ?_
  refine oR 1 i41p6 ((18, .bool x2_1.1) :: (17, .ptr 0 4 0) :: E4) ?_
  refine oS 18 (fun hb => ?_) (fun hb => ?_)
  ·refine oR 4 (atN 1 (ctl1 i41p7)) ((19, .ptr 0 4 0) :: (18, .bool true) :: (18, .bool x2_1.1) :: (17, .ptr 0 4 0) :: E4) ?_
   refine oN (fun (x3_1 : Ri12) => w9 x3_1.1) (fun x3_1 => [⟨[.str a1, w34 a2, .i x3_1.2, .i a4], 4, false⟩, Q5, Q3, Q4]) (atN 2 (ctl1 i41p7)) 20 [0] [] [] [.ptr 0 4 0] (i12_ok k a1 a2 x2_1.2 a4) trivial (fun _ => trivial) fun x3_1 hx3_1 => ?_
   refine oL 6 i41p2 [(0, .ptr 0 4 0), (1, w9 x3_1.1), (2, .func 100 [.ptr 0 4 0] []), (7, .own 1 (x1_3).length 7)] ?_
   refine ok_cut [⟨[.str a1, w34 a2, .i x3_1.2, .i a4], 4, false⟩, Q5] [Q3, Q4] (by kernel_rfl) rfl (by kernel_rfl) ⟨(by kernel_rfl), ⟨(purs_belows _ (u29 _)), trivial⟩⟩ ?_
   exact ih x3_1.1 x3_1.2 x1_3
  ·exact oQF 8 [⟨[.str a1, w34 a2, .i x2_1.2, .i a4], 4, false⟩, Q5, Q3, Q4] 1 [] [.own 1 (x1_3).length 7] (w29 x1_3) (fz_own e29_len e29_pur rfl rfl rfl .ps) trivial
def i41B (k : Nat) (F : Fns0) (a0 : (List (List Nat))) (a1 : (List Nat)) (a2 : (List S33)) (a3 : Int) (a4 : Int) : Option (Option Ri41) :=
 i41_l4 k F a1 a2 a4 k a0 a3 ([] : List S28)
theorem i41B_all (k : Nat) (F : Fns0) (hF : FnsOk0 F) (a0 : (List (List Nat))) (a1 : (List Nat)) (a2 : (List S33)) (a3 : Int) (a4 : Int) (r : (Option Ri41)) (h : i41B k F a0 a1 a2 a3 a4 = some r) : CallT Try.prog 105 [.ptr 0 4 0, w9 a0, .func 100 [.ptr 0 4 0] []] (mkH [⟨[.str a1, w34 a2, .i a3, .i a4], 4, false⟩]) ((Xi41 a0 a1 a2 a3 a4).thr r) ((Xi41 a0 a1 a2 a3 a4).enc r) ((Xi41 a0 a1 a2 a3 a4).fin r) := by
 refine callM_of (Xi41 a0 a1 a2 a3 a4) Try.func105 (by kernel_rfl) (by kernel_rfl) rfl (t := i41B k F a0 a1 a2 a3 a4) ?_ h
 unfold i41B
 refine ok_env (eE := [(0, .ptr 0 4 0), (1, w9 a0), (2, .func 100 [.ptr 0 4 0] [])]) (by kernel_rfl) ?_
 let E1 : Env := [(7, .nils), (6, .nils), (0, .ptr 0 4 0), (1, w9 a0), (2, .func 100 [.ptr 0 4 0] [])]
 let Q1 : Blk := ⟨[.str a1, w34 a2, .i a3, .i a4], 4, false⟩
 refine oH 8 (atN 1 (ctl1 i41p1)) E1 (mkH [Q1]) ?_
 refine ok_own [Q1] 7 7 rfl (by kernel_rfl) ?_
 refine oH 4 i41p2 ((7, .own 1 (([] : List S28)).length 7) :: E1) (mkH [Q1, ⟨(([] : List S28)).flatMap e29, 0, false⟩]) ?_
 refine oK [0, 1, 2, 7] [(0, .ptr 0 4 0), (1, w9 a0), (2, .func 100 [.ptr 0 4 0] []), (7, .own 1 (([] : List S28)).length 7)] ?_
 exact (i41_l4_ok k F hF a0 a1 a2 a3 a4 k) a0 a3 ([] : List S28)
theorem i41B_ok (k : Nat) (F : Fns0) (hF : FnsOk0 F) : Pi41 (i41B k F) := fun a0 a1 a2 a3 a4 x h => i41B_all k F hF a0 a1 a2 a3 a4 (some x) h
theorem i41B_thr (k : Nat) (F : Fns0) (hF : FnsOk0 F) : Qi41 (i41B k F) := fun a0 a1 a2 a3 a4 h => ⟨_, i41B_all k F hF a0 a1 a2 a3 a4 none h⟩
end
end Go.Proofs.Ythpplbkobokghaa.Am
set_option maxRecDepth 100000
set_option linter.unusedVariables false
namespace Go.Proofs.Ythpplbkobokghaa.Am
noncomputable section
open Go
def Xi42 (a0 : (List (List Nat))) (a1 : (List Nat)) (a2 : (List S33)) (a3 : Int) (a4 : Int) : Fx (Option Ri42) := ⟨Try.prog, cx, Try.f105, fun r => match r with | some r => w29 r.1 | none => .top, 1, fun r => match r with | some r => (mkH [⟨[.str a1, w34 a2, .i r.2, .i a4], 4, false⟩]) | none => (mkH [⟨[.str a1, w34 a2, .i a3, .i a4], 4, false⟩]), cxTi, cxOrd, fun r => match r with | some _ => none | none => some (thrown, [0]), false⟩
def i42p0 : Pt := nav [0] (bodyAt Try.f105)
def i42p1 : Pt := nav [0, 0, 0, 0] i42p0
def i42p2 : Pt := nav [0, 0, 0, 0, 0] i42p1
def i42p3 : Pt := nav [0, 0, 0] i42p2
def i42p4 : Pt := nav [0, 0, 0] i42p3
def i42p5 : Pt := nav [0, 0, 0, 0] i42p4
def i42p6 : Pt := nav [0, 0] i42p5
def i42p7 : Pt := nav [1, 0] i42p6
def i42_l4B (k : Nat) (F : Fns0)  (a1 : (List Nat)) (a2 : (List S33)) (a4 : Int) (ih : (List (List Nat)) → Int → (List S28) → Option (Option Ri42)) : (List (List Nat)) → Int → (List S28) → Option (Option Ri42) :=
 fun (y4_0 : (List (List Nat))) (y4_1 : Int) (y4_2 : (List S28)) => bT (F.i46 a1 a2 y4_1 a4) fun x0_1 => (appS 104 y4_2 ([(⟨x0_1.1.f0, x0_1.1.f1, x0_1.1.f2, x0_1.1.f3, x0_1.1.f4, y4_0, x0_1.1.f6⟩ : S28)] : List S28)).bind fun x1_3 => bT (i7 k ([59] : List Nat) a1 a2 x0_1.2 a4) fun x2_1 => if x2_1.1 then ((i12 k a1 a2 x2_1.2 a4).bind fun x3_1 => ih x3_1.1 x3_1.2 x1_3) else (some (some (x1_3, x2_1.2)))
def i42_l4 (k : Nat) (F : Fns0)  (a1 : (List Nat)) (a2 : (List S33)) (a4 : Int) (n : Nat) : (List (List Nat)) → Int → (List S28) → Option (Option Ri42) := lp (fun _ _ _ => none) (i42_l4B k F a1 a2 a4) n
theorem i42_l4_ok (k : Nat) (F : Fns0) (hF : FnsOk0 F) (a0 : (List (List Nat))) (a1 : (List Nat)) (a2 : (List S33)) (a3 : Int) (a4 : Int)    : ∀ (n : Nat) (y4_0 : (List (List Nat))) (y4_1 : Int) (y4_2 : (List S28)), Ok (Xi42 a0 a1 a2 a3 a4) i42p2 [(0, .ptr 0 4 0), (1, w9 y4_0), (2, .func 101 [.ptr 0 4 0] []), (7, .own 1 (y4_2).length 7)] (mkH [⟨[.str a1, w34 a2, .i y4_1, .i a4], 4, false⟩, ⟨(y4_2).flatMap e29, 0, false⟩]) (i42_l4 k F a1 a2 a4 n y4_0 y4_1 y4_2) := by
 intro n
 induction n with
 | zero => intro y4_0 y4_1 y4_2; exact ok_none
 | succ n ih =>
  intro y4_0 y4_1 y4_2
  show Ok _ _ _ _ (i42_l4B k F a1 a2 a4 (i42_l4 k F a1 a2 a4 n) y4_0 y4_1 y4_2)
  unfold i42_l4B
  let E2 : Env := [(9, .func 101 [.ptr 0 4 0] []), (0, .ptr 0 4 0), (1, w9 y4_0), (2, .func 101 [.ptr 0 4 0] []), (7, .own 1 (y4_2).length 7)]
  let Q1 : Blk := ⟨(y4_2).flatMap e29, 0, false⟩
  refine oH 2 (atN 1 (ctl1 i42p2)) E2 (mkH [⟨[.str a1, w34 a2, .i y4_1, .i a4], 4, false⟩, Q1]) ?_
  refine oX (fun (x0_1 : (S28 × Int)) => n29 x0_1.1) (fun x0_1 => [⟨[.str a1, w34 a2, .i x0_1.2, .i a4], 4, false⟩, Q1]) (atN 2 (ctl1 i42p2)) 10 [0] [] [] [0] [0, 1] [.ptr 0 4 0] (hF.i46_thr a1 a2 y4_1 a4) (hF.i46_ok a1 a2 y4_1 a4) trivial (fun _ => trivial) ⟨u29 _, trivial⟩ fun x0_1 hx0_1 => ?_
  let Q2 : Blk := ⟨[.str a1, w34 a2, .i x0_1.2, .i a4], 4, false⟩
  let Q3 : Blk := ⟨[.i x0_1.1.f0, .str x0_1.1.f1, q29 x0_1.1.f2, .bool x0_1.1.f3, .bool x0_1.1.f4, w9 y4_0, w9 x0_1.1.f6], 7, false⟩
  let Q4 : Blk := ⟨[.i x0_1.1.f0, .str x0_1.1.f1, q29 x0_1.1.f2, .bool x0_1.1.f3, .bool x0_1.1.f4, w9 y4_0, w9 x0_1.1.f6], 0, false⟩
  refine oH 14 (atN 3 (ctl1 i42p4)) ((15, .slice 3 7 0 1 7) :: (14, .agg [.i x0_1.1.f0, .str x0_1.1.f1, q29 x0_1.1.f2, .bool x0_1.1.f3, .bool x0_1.1.f4, w9 y4_0, w9 x0_1.1.f6]) :: (13, .own 1 (y4_2).length 7) :: (12, .ptr 2 7 5) :: (11, w9 y4_0) :: (8, .ptr 2 7 0) :: (10, n29 x0_1.1) :: E2) (mkH [Q2, Q1, Q3, Q4]) ?_
  refine oC (fun (x1_3 : (List S28)) => (.own 1 (x1_3).length 7, (mkH [Q2, ⟨(x1_3).flatMap e29, 0, false⟩, Q3, Q4]))) (atN 4 (ctl1 i42p4)) 16 (appH (sz := 7) e29_len rfl e29_one [Q2, Q1, Q3, Q4] 1 104 y4_2 ([(⟨x0_1.1.f0, x0_1.1.f1, x0_1.1.f2, x0_1.1.f3, x0_1.1.f4, y4_0, x0_1.1.f6⟩ : S28)] : List S28) rfl rfl (by kernel_rfl)) fun x1_3 hx1_3 => ?_
  let Q5 : Blk := ⟨(x1_3).flatMap e29, 0, false⟩
  refine oLH 4 i42p5 [(0, .ptr 0 4 0), (2, .func 101 [.ptr 0 4 0] []), (7, .own 1 (x1_3).length 7)] (mkH [Q2, Q5, Q3, Q4]) ?_
  let E4 : Env := [(0, .ptr 0 4 0), (2, .func 101 [.ptr 0 4 0] []), (7, .own 1 (x1_3).length 7)]
  refine oR 2 (atN 1 (ctl1 i42p5)) ((17, .ptr 0 4 0) :: E4) ?_
  refine oX (fun (x2_1 : (Bool × Int)) => .bool x2_1.1) (fun x2_1 => [⟨[.str a1, w34 a2, .i x2_1.2, .i a4], 4, false⟩, Q5, Q3, Q4]) (atN 2 (ctl1 i42p5)) 18 [0] [] [] [] [0, 1] [.ptr 0 4 0, .str [59]] (i7_thr k ([59] : List Nat) a1 a2 x0_1.2 a4) (i7_ok k ([59] : List Nat) a1 a2 x0_1.2 a4) trivial (fun _ => trivial) ⟨u29 _, trivial⟩ fun x2_1 hx2_1 => ?_
  refine oR 1 i42p6 ((18, .bool x2_1.1) :: (17, .ptr 0 4 0) :: E4) ?_
  refine oS 18 (fun hb => ?_) (fun hb => ?_)
  ·refine oR 4 (atN 1 (ctl1 i42p7)) ((19, .ptr 0 4 0) :: (18, .bool true) :: (18, .bool x2_1.1) :: (17, .ptr 0 4 0) :: E4) ?_
   refine oN (fun (x3_1 : Ri12) => w9 x3_1.1) (fun x3_1 => [⟨[.str a1, w34 a2, .i x3_1.2, .i a4], 4, false⟩, Q5, Q3, Q4]) (atN 2 (ctl1 i42p7)) 20 [0] [] [] [.ptr 0 4 0] (i12_ok k a1 a2 x2_1.2 a4) trivial (fun _ => trivial) fun x3_1 hx3_1 => ?_
   refine oL 6 i42p2 [(0, .ptr 0 4 0), (1, w9 x3_1.1), (2, .func 101 [.ptr 0 4 0] []), (7, .own 1 (x1_3).length 7)] ?_
   refine ok_cut [⟨[.str a1, w34 a2, .i x3_1.2, .i a4], 4, false⟩, Q5] [Q3, Q4] (by kernel_rfl) rfl (by kernel_rfl) ⟨(by kernel_rfl), ⟨(purs_belows _ (u29 _)), trivial⟩⟩ ?_
   exact ih x3_1.1 x3_1.2 x1_3
  ·exact oQF 8 [⟨[.str a1, w34 a2, .i x2_1.2, .i a4], 4, false⟩, Q5, Q3, Q4] 1 [] [.own 1 (x1_3).length 7] (w29 x1_3) (fz_own e29_len e29_pur rfl rfl rfl .ps) trivial
def i42B (k : Nat) (F : Fns0) (a0 : (List (List Nat))) (a1 : (List Nat)) (a2 : (List S33)) (a3 : Int) (a4 : Int) : Option (Option Ri42) :=
 i42_l4 k F a1 a2 a4 k a0 a3 ([] : List S28)
theorem i42B_all (k : Nat) (F : Fns0) (hF : FnsOk0 F) (a0 : (List (List Nat))) (a1 : (List Nat)) (a2 : (List S33)) (a3 : Int) (a4 : Int) (r : (Option Ri42)) (h : i42B k F a0 a1 a2 a3 a4 = some r) : CallT Try.prog 105 [.ptr 0 4 0, w9 a0, .func 101 [.ptr 0 4 0] []] (mkH [⟨[.str a1, w34 a2, .i a3, .i a4], 4, false⟩]) ((Xi42 a0 a1 a2 a3 a4).thr r) ((Xi42 a0 a1 a2 a3 a4).enc r) ((Xi42 a0 a1 a2 a3 a4).fin r) := by
 refine callM_of (Xi42 a0 a1 a2 a3 a4) Try.func105 (by kernel_rfl) (by kernel_rfl) rfl (t := i42B k F a0 a1 a2 a3 a4) ?_ h
 unfold i42B
 refine ok_env (eE := [(0, .ptr 0 4 0), (1, w9 a0), (2, .func 101 [.ptr 0 4 0] [])]) (by kernel_rfl) ?_
 let E1 : Env := [(7, .nils), (6, .nils), (0, .ptr 0 4 0), (1, w9 a0), (2, .func 101 [.ptr 0 4 0] [])]
 let Q1 : Blk := ⟨[.str a1, w34 a2, .i a3, .i a4], 4, false⟩
 refine oH 8 (atN 1 (ctl1 i42p1)) E1 (mkH [Q1]) ?_
 refine ok_own [Q1] 7 7 rfl (by kernel_rfl) ?_
 refine oH 4 i42p2 ((7, .own 1 (([] : List S28)).length 7) :: E1) (mkH [Q1, ⟨(([] : List S28)).flatMap e29, 0, false⟩]) ?_
 refine oK [0, 1, 2, 7] [(0, .ptr 0 4 0), (1, w9 a0), (2, .func 101 [.ptr 0 4 0] []), (7, .own 1 (([] : List S28)).length 7)] ?_
 exact (i42_l4_ok k F hF a0 a1 a2 a3 a4 k) a0 a3 ([] : List S28)
theorem i42B_ok (k : Nat) (F : Fns0) (hF : FnsOk0 F) : Pi42 (i42B k F) := fun a0 a1 a2 a3 a4 x h => i42B_all k F hF a0 a1 a2 a3 a4 (some x) h
theorem i42B_thr (k : Nat) (F : Fns0) (hF : FnsOk0 F) : Qi42 (i42B k F) := fun a0 a1 a2 a3 a4 h => ⟨_, i42B_all k F hF a0 a1 a2 a3 a4 none h⟩
end
end Go.Proofs.Ythpplbkobokghaa.Am
set_option maxRecDepth 100000
set_option linter.unusedVariables false
namespace Go.Proofs.Ythpplbkobokghaa.Am
noncomputable section
open Go
def Xi43 (a0 : (List (List Nat))) (a1 : (List Nat)) (a2 : (List S33)) (a3 : Int) (a4 : Int) : Fx (Option Ri43) := ⟨Try.prog, cx, Try.f105, fun r => match r with | some r => .own 1 (r.2).length 7 | none => .top, 1, fun r => match r with | some r => (mkH [⟨[.str a1, w34 a2, .i r.1, .i a4], 4, false⟩, ⟨(r.2).flatMap e29, 0, false⟩]) | none => (mkH [⟨[.str a1, w34 a2, .i a3, .i a4], 4, false⟩]), cxTi, cxOrd, fun r => match r with | some _ => none | none => some (thrown, [0]), false⟩
def i43p0 : Pt := nav [0] (bodyAt Try.f105)
def i43p1 : Pt := nav [0, 0, 0, 0] i43p0
def i43p2 : Pt := nav [0, 0, 0, 0, 0] i43p1
def i43p3 : Pt := nav [0, 0, 0] i43p2
def i43p4 : Pt := nav [0, 0, 0] i43p3
def i43p5 : Pt := nav [0, 0, 0, 0] i43p4
def i43p6 : Pt := nav [0, 0] i43p5
def i43p7 : Pt := nav [1, 0] i43p6
def i43_l4B (k : Nat) (F : Fns0)  (a1 : (List Nat)) (a2 : (List S33)) (a4 : Int) (ih : (List (List Nat)) → Int → (List S28) → Option (Option Ri43)) : (List (List Nat)) → Int → (List S28) → Option (Option Ri43) :=
 fun (y4_0 : (List (List Nat))) (y4_1 : Int) (y4_2 : (List S28)) => bT (F.i45 a1 a2 y4_1 a4) fun x0_1 => (appS 104 y4_2 ([(⟨x0_1.1.f0, x0_1.1.f1, x0_1.1.f2, x0_1.1.f3, x0_1.1.f4, y4_0, x0_1.1.f6⟩ : S28)] : List S28)).bind fun x1_3 => bT (i7 k ([59] : List Nat) a1 a2 x0_1.2 a4) fun x2_1 => if x2_1.1 then ((i12 k a1 a2 x2_1.2 a4).bind fun x3_1 => ih x3_1.1 x3_1.2 x1_3) else (some (some (x2_1.2, x1_3)))
def i43_l4 (k : Nat) (F : Fns0)  (a1 : (List Nat)) (a2 : (List S33)) (a4 : Int) (n : Nat) : (List (List Nat)) → Int → (List S28) → Option (Option Ri43) := lp (fun _ _ _ => none) (i43_l4B k F a1 a2 a4) n
theorem i43_l4_ok (k : Nat) (F : Fns0) (hF : FnsOk0 F) (a0 : (List (List Nat))) (a1 : (List Nat)) (a2 : (List S33)) (a3 : Int) (a4 : Int)    : ∀ (n : Nat) (y4_0 : (List (List Nat))) (y4_1 : Int) (y4_2 : (List S28)), Ok (Xi43 a0 a1 a2 a3 a4) i43p2 [(0, .ptr 0 4 0), (1, w9 y4_0), (2, .func 100 [.ptr 0 4 0] []), (7, .own 1 (y4_2).length 7)] (mkH [⟨[.str a1, w34 a2, .i y4_1, .i a4], 4, false⟩, ⟨(y4_2).flatMap e29, 0, false⟩]) (i43_l4 k F a1 a2 a4 n y4_0 y4_1 y4_2) := by
 intro n
 induction n with
 | zero => intro y4_0 y4_1 y4_2; exact ok_none
 | succ n ih =>
  intro y4_0 y4_1 y4_2
  show Ok _ _ _ _ (i43_l4B k F a1 a2 a4 (i43_l4 k F a1 a2 a4 n) y4_0 y4_1 y4_2)
  unfold i43_l4B
  let E2 : Env := [(9, .func 100 [.ptr 0 4 0] []), (0, .ptr 0 4 0), (1, w9 y4_0), (2, .func 100 [.ptr 0 4 0] []), (7, .own 1 (y4_2).length 7)]
  let Q1 : Blk := ⟨(y4_2).flatMap e29, 0, false⟩
  refine oH 2 (atN 1 (ctl1 i43p2)) E2 (mkH [⟨[.str a1, w34 a2, .i y4_1, .i a4], 4, false⟩, Q1]) ?_
  refine oX (fun (x0_1 : (S28 × Int)) => n29 x0_1.1) (fun x0_1 => [⟨[.str a1, w34 a2, .i x0_1.2, .i a4], 4, false⟩, Q1]) (atN 2 (ctl1 i43p2)) 10 [0] [] [] [0] [0, 1] [.ptr 0 4 0] (hF.i45_thr a1 a2 y4_1 a4) (hF.i45_ok a1 a2 y4_1 a4) trivial (fun _ => trivial) ⟨u29 _, trivial⟩ fun x0_1 hx0_1 => ?_
  let Q2 : Blk := ⟨[.str a1, w34 a2, .i x0_1.2, .i a4], 4, false⟩
  let Q3 : Blk := ⟨[.i x0_1.1.f0, .str x0_1.1.f1, q29 x0_1.1.f2, .bool x0_1.1.f3, .bool x0_1.1.f4, w9 y4_0, w9 x0_1.1.f6], 7, false⟩
  let Q4 : Blk := ⟨[.i x0_1.1.f0, .str x0_1.1.f1, q29 x0_1.1.f2, .bool x0_1.1.f3, .bool x0_1.1.f4, w9 y4_0, w9 x0_1.1.f6], 0, false⟩
  refine oH 14 (atN 3 (ctl1 i43p4)) ((15, .slice 3 7 0 1 7) :: (14, .agg [.i x0_1.1.f0, .str x0_1.1.f1, q29 x0_1.1.f2, .bool x0_1.1.f3, .bool x0_1.1.f4, w9 y4_0, w9 x0_1.1.f6]) :: (13, .own 1 (y4_2).length 7) :: (12, .ptr 2 7 5) :: (11, w9 y4_0) :: (8, .ptr 2 7 0) :: (10, n29 x0_1.1) :: E2) (mkH [Q2, Q1, Q3, Q4]) ?_
  refine oC (fun (x1_3 : (List S28)) => (.own 1 (x1_3).length 7, (mkH [Q2, ⟨(x1_3).flatMap e29, 0, false⟩, Q3, Q4]))) (atN 4 (ctl1 i43p4)) 16 (appH (sz := 7) e29_len rfl e29_one [Q2, Q1, Q3, Q4] 1 104 y4_2 ([(⟨x0_1.1.f0, x0_1.1.f1, x0_1.1.f2, x0_1.1.f3, x0_1.1.f4, y4_0, x0_1.1.f6⟩ : S28)] : List S28) rfl rfl (by kernel_rfl)) fun x1_3 hx1_3 => ?_
  let Q5 : Blk := ⟨(x1_3).flatMap e29, 0, false⟩
  refine oLH 4 i43p5 [(0, .ptr 0 4 0), (2, .func 100 [.ptr 0 4 0] []), (7, .own 1 (x1_3).length 7)] (mkH [Q2, Q5, Q3, Q4]) ?_
  let E4 : Env := [(0, .ptr 0 4 0), (2, .func 100 [.ptr 0 4 0] []), (7, .own 1 (x1_3).length 7)]
  refine oR 2 (atN 1 (ctl1 i43p5)) ((17, .ptr 0 4 0) :: E4) ?_
  refine oX (fun (x2_1 : (Bool × Int)) => .bool x2_1.1) (fun x2_1 => [⟨[.str a1, w34 a2, .i x2_1.2, .i a4], 4, false⟩, Q5, Q3, Q4]) (atN 2 (ctl1 i43p5)) 18 [0] [] [] [] [0, 1] [.ptr 0 4 0, .str [59]] (i7_thr k ([59] : List Nat) a1 a2 x0_1.2 a4) (i7_ok k ([59] : List Nat) a1 a2 x0_1.2 a4) trivial (fun _ => trivial) ⟨u29 _, trivial⟩ fun x2_1 hx2_1 => ?_
  refine oR 1 i43p6 ((18, .bool x2_1.1) :: (17, .ptr 0 4 0) :: E4) ?_
  refine oS 18 (fun hb => ?_) (fun hb => ?_)
  ·refine oR 4 (atN 1 (ctl1 i43p7)) ((19, .ptr 0 4 0) :: (18, .bool true) :: (18, .bool x2_1.1) :: (17, .ptr 0 4 0) :: E4) ?_
   refine oN (fun (x3_1 : Ri12) => w9 x3_1.1) (fun x3_1 => [⟨[.str a1, w34 a2, .i x3_1.2, .i a4], 4, false⟩, Q5, Q3, Q4]) (atN 2 (ctl1 i43p7)) 20 [0] [] [] [.ptr 0 4 0] (i12_ok k a1 a2 x2_1.2 a4) trivial (fun _ => trivial) fun x3_1 hx3_1 => ?_
   refine oL 6 i43p2 [(0, .ptr 0 4 0), (1, w9 x3_1.1), (2, .func 100 [.ptr 0 4 0] []), (7, .own 1 (x1_3).length 7)] ?_
   refine ok_cut [⟨[.str a1, w34 a2, .i x3_1.2, .i a4], 4, false⟩, Q5] [Q3, Q4] (by kernel_rfl) rfl (by kernel_rfl) ⟨(by kernel_rfl), ⟨(purs_belows _ (u29 _)), trivial⟩⟩ ?_
   exact ih x3_1.1 x3_1.2 x1_3
  ·refine oR 8 .fin ((6, .own 1 (x1_3).length 7) :: (21, .own 1 (x1_3).length 7) :: (18, .bool false) :: (18, .bool x2_1.1) :: (17, .ptr 0 4 0) :: E4) ?_
   exact ok_retC (r := some (x2_1.2, x1_3)) (xs := [.own 1 (x1_3).length 7]) [⟨[.str a1, w34 a2, .i x2_1.2, .i a4], 4, false⟩, Q5] [Q3, Q4] (by kernel_rfl) (by kernel_rfl) (by kernel_rfl) (by kernel_rfl) (by kernel_rfl) ⟨(by kernel_rfl), ⟨(purs_belows _ (u29 _)), trivial⟩⟩ (by kernel_rfl) (by kernel_rfl)
def i43B (k : Nat) (F : Fns0) (a0 : (List (List Nat))) (a1 : (List Nat)) (a2 : (List S33)) (a3 : Int) (a4 : Int) : Option (Option Ri43) :=
 i43_l4 k F a1 a2 a4 k a0 a3 ([] : List S28)
theorem i43B_all (k : Nat) (F : Fns0) (hF : FnsOk0 F) (a0 : (List (List Nat))) (a1 : (List Nat)) (a2 : (List S33)) (a3 : Int) (a4 : Int) (r : (Option Ri43)) (h : i43B k F a0 a1 a2 a3 a4 = some r) : CallT Try.prog 105 [.ptr 0 4 0, w9 a0, .func 100 [.ptr 0 4 0] []] (mkH [⟨[.str a1, w34 a2, .i a3, .i a4], 4, false⟩]) ((Xi43 a0 a1 a2 a3 a4).thr r) ((Xi43 a0 a1 a2 a3 a4).enc r) ((Xi43 a0 a1 a2 a3 a4).fin r) := by
 refine callM_of (Xi43 a0 a1 a2 a3 a4) Try.func105 (by kernel_rfl) (by kernel_rfl) rfl (t := i43B k F a0 a1 a2 a3 a4) ?_ h
 unfold i43B
 refine ok_env (eE := [(0, .ptr 0 4 0), (1, w9 a0), (2, .func 100 [.ptr 0 4 0] [])]) (by kernel_rfl) ?_
 let E1 : Env := [(7, .nils), (6, .nils), (0, .ptr 0 4 0), (1, w9 a0), (2, .func 100 [.ptr 0 4 0] [])]
 let Q1 : Blk := ⟨[.str a1, w34 a2, .i a3, .i a4], 4, false⟩
 refine oH 8 (atN 1 (ctl1 i43p1)) E1 (mkH [Q1]) ?_
 refine ok_own [Q1] 7 7 rfl (by kernel_rfl) ?_
 refine oH 4 i43p2 ((7, .own 1 (([] : List S28)).length 7) :: E1) (mkH [Q1, ⟨(([] : List S28)).flatMap e29, 0, false⟩]) ?_
 refine oK [0, 1, 2, 7] [(0, .ptr 0 4 0), (1, w9 a0), (2, .func 100 [.ptr 0 4 0] []), (7, .own 1 (([] : List S28)).length 7)] ?_
 exact (i43_l4_ok k F hF a0 a1 a2 a3 a4 k) a0 a3 ([] : List S28)
theorem i43B_ok (k : Nat) (F : Fns0) (hF : FnsOk0 F) : Pi43 (i43B k F) := fun a0 a1 a2 a3 a4 x h => i43B_all k F hF a0 a1 a2 a3 a4 (some x) h
theorem i43B_thr (k : Nat) (F : Fns0) (hF : FnsOk0 F) : Qi43 (i43B k F) := fun a0 a1 a2 a3 a4 h => ⟨_, i43B_all k F hF a0 a1 a2 a3 a4 none h⟩
end
end Go.Proofs.Ythpplbkobokghaa.Am
set_option maxRecDepth 100000
set_option linter.unusedVariables false
namespace Go.Proofs.Ythpplbkobokghaa.Am
noncomputable section
open Go
def Xi44 (a0 : (List Nat)) (a1 : (List S33)) (a2 : Int) (a3 : Int) : Fx (Option (S28 × Int)) := ⟨Try.prog, cx, Try.f106, fun r => match r with | some r => .agg [.i r.1.f0, .str r.1.f1, q29 r.1.f2, .bool r.1.f3, .bool r.1.f4, w9 r.1.f5, w9 r.1.f6] | none => .top, 2, fun r => match r with | some r => (mkH [⟨[.str a0, w34 a1, .i r.2, .i a3], 4, false⟩, ⟨[.ptr 0 4 0], 1, false⟩]) | none => (mkH [⟨[.str a0, w34 a1, .i a2, .i a3], 4, false⟩, ⟨[.ptr 0 4 0], 1, false⟩]), cxTi, cxOrd, fun r => match r with | some _ => none | none => some (thrown, [0, 1]), false⟩
def i44p0 : Pt := nav [0] (bodyAt Try.f106)
def i44p1 : Pt := nav [0, 0, 0] i44p0
def i44B (k : Nat) (F : Fns0) (a0 : (List Nat)) (a1 : (List S33)) (a2 : Int) (a3 : Int) : Option (Option (S28 × Int)) :=
 bT (F.i48 ([] : List Nat) a0 a1 a2 a3) fun x0_1 => some (some ((⟨x0_1.1.f0, x0_1.1.f1, x0_1.1.f2, x0_1.1.f3, x0_1.1.f4, x0_1.1.f5, x0_1.1.f6⟩ : S28), x0_1.2))
theorem i44B_all (k : Nat) (F : Fns0) (hF : FnsOk0 F) (a0 : (List Nat)) (a1 : (List S33)) (a2 : Int) (a3 : Int) (r : (Option (S28 × Int))) (h : i44B k F a0 a1 a2 a3 = some r) : CallT Try.prog 106 [.ptr 1 1 0] (mkH [⟨[.str a0, w34 a1, .i a2, .i a3], 4, false⟩, ⟨[.ptr 0 4 0], 1, false⟩]) ((Xi44 a0 a1 a2 a3).thr r) ((Xi44 a0 a1 a2 a3).enc r) ((Xi44 a0 a1 a2 a3).fin r) := by
 refine callM_of (Xi44 a0 a1 a2 a3) Try.func106 (by kernel_rfl) (by kernel_rfl) rfl (t := i44B k F a0 a1 a2 a3) ?_ h
 unfold i44B
 refine ok_env (eE := [(0, .ptr 1 1 0)]) (by kernel_rfl) ?_
 let Q1 : Blk := ⟨[.i 0, .str [], .nils, .bool false, .bool false, .nils, .nils], 0, false⟩
 refine oH 7 (atN 1 (ctl1 i44p1)) [(2, .ptr 0 4 0), (1, .ptr 2 7 0), (0, .ptr 1 1 0)] (mkH [⟨[.str a0, w34 a1, .i a2, .i a3], 4, false⟩, ⟨[.ptr 0 4 0], 1, false⟩, Q1]) ?_
 refine oX (fun (x0_1 : (S28 × Int)) => n29 x0_1.1) (fun x0_1 => [⟨[.str a0, w34 a1, .i x0_1.2, .i a3], 4, false⟩, ⟨[.ptr 0 4 0], 1, false⟩, Q1]) (atN 2 (ctl1 i44p1)) 3 [0] [] [] [0, 1] [] [.ptr 0 4 0, .str []] (hF.i48_thr ([] : List Nat) a0 a1 a2 a3) (hF.i48_ok ([] : List Nat) a0 a1 a2 a3) trivial (fun _ => trivial) trivial fun x0_1 hx0_1 => ?_
 exact oQF 3 [⟨[.str a0, w34 a1, .i x0_1.2, .i a3], 4, false⟩, ⟨[.ptr 0 4 0], 1, false⟩, ⟨e29 x0_1.1, 7, false⟩] 2 [] [n29 x0_1.1] (n29 x0_1.1) .ps trivial
theorem i44B_ok (k : Nat) (F : Fns0) (hF : FnsOk0 F) : Pi44 (i44B k F) := fun a0 a1 a2 a3 x h => i44B_all k F hF a0 a1 a2 a3 (some x) h
theorem i44B_thr (k : Nat) (F : Fns0) (hF : FnsOk0 F) : Qi44 (i44B k F) := fun a0 a1 a2 a3 h => ⟨_, i44B_all k F hF a0 a1 a2 a3 none h⟩
end
end Go.Proofs.Ythpplbkobokghaa.Am
set_option maxRecDepth 100000
set_option linter.unusedVariables false
namespace Go.Proofs.Ythpplbkobokghaa.Am
noncomputable section
open Go
def Xi45 (a0 : (List Nat)) (a1 : (List S33)) (a2 : Int) (a3 : Int) : Fx (Option (S28 × Int)) := ⟨Try.prog, cx, Try.f100, fun r => match r with | some r => .agg [.i r.1.f0, .str r.1.f1, q29 r.1.f2, .bool r.1.f3, .bool r.1.f4, w9 r.1.f5, w9 r.1.f6] | none => .top, 1, fun r => match r with | some r => (mkH [⟨[.str a0, w34 a1, .i r.2, .i a3], 4, false⟩]) | none => (mkH [⟨[.str a0, w34 a1, .i a2, .i a3], 4, false⟩]), cxTi, cxOrd, fun r => match r with | some _ => none | none => some (thrown, [0]), false⟩
def i45p0 : Pt := nav [0] (bodyAt Try.f100)
def i45p1 : Pt := nav [0, 0, 0] i45p0
def i45p2 : Pt := nav [0, 0, 0] i45p1
def i45B (k : Nat) (F : Fns0) (a0 : (List Nat)) (a1 : (List S33)) (a2 : Int) (a3 : Int) : Option (Option (S28 × Int)) :=
 bT (F.i5 (1 : Int) a0 a1 a2 a3) fun x0_1 => bT (F.i49 a0 a1 x0_1.2 a3) fun x1_3 => bT (F.i47 ([] : List Nat) (23 : Int) ([] : List Nat) (⟨(([(⟨x0_1.1.f0, x0_1.1.f1, x0_1.1.f2, x0_1.1.f3, x0_1.1.f4, x0_1.1.f5, x0_1.1.f6⟩ : S28)] : List S28)).length, (([(⟨x0_1.1.f0, x0_1.1.f1, x0_1.1.f2, x0_1.1.f3, x0_1.1.f4, x0_1.1.f5, x0_1.1.f6⟩ : S28)] : List S28)).flatMap e29⟩ : Raw) false false ([] : List (List Nat)) ([] : List (List Nat)) x1_3.1.f0 x1_3.1.f1 x1_3.1.f2 x1_3.1.f3 x1_3.1.f4 x1_3.1.f5 x1_3.1.f6 a0 a1 x1_3.2 a3) fun x1_4 => some (some ((⟨x1_4.1.f0, x1_4.1.f1, x1_4.1.f2, x1_4.1.f3, x1_4.1.f4, x1_4.1.f5, x1_4.1.f6⟩ : S28), x1_4.2))
theorem i45B_all (k : Nat) (F : Fns0) (hF : FnsOk0 F) (a0 : (List Nat)) (a1 : (List S33)) (a2 : Int) (a3 : Int) (r : (Option (S28 × Int))) (h : i45B k F a0 a1 a2 a3 = some r) : CallT Try.prog 100 [.ptr 0 4 0] (mkH [⟨[.str a0, w34 a1, .i a2, .i a3], 4, false⟩]) ((Xi45 a0 a1 a2 a3).thr r) ((Xi45 a0 a1 a2 a3).enc r) ((Xi45 a0 a1 a2 a3).fin r) := by
 refine callM_of (Xi45 a0 a1 a2 a3) Try.func100 (by kernel_rfl) (by kernel_rfl) rfl (t := i45B k F a0 a1 a2 a3) ?_ h
 unfold i45B
 refine ok_env (eE := [(0, .ptr 0 4 0)]) (by kernel_rfl) ?_
 let Q1 : Blk := ⟨[.str a0, w34 a1, .i a2, .i a3], 4, false⟩
 let Q2 : Blk := ⟨[.i 0, .str [], .nils, .bool false, .bool false, .nils, .nils], 0, false⟩
 refine oH 7 (atN 1 (ctl1 i45p1)) [(4, .ptr 0 4 0), (2, .ptr 1 7 0), (0, .ptr 0 4 0)] (mkH [Q1, Q2]) ?_
 refine oX (fun (x0_1 : (S28 × Int)) => n29 x0_1.1) (fun x0_1 => [⟨[.str a0, w34 a1, .i x0_1.2, .i a3], 4, false⟩, Q2]) (atN 2 (ctl1 i45p1)) 5 [0] [] [] [0] [] [.ptr 0 4 0, .i 1] (hF.i5_thr (1 : Int) a0 a1 a2 a3) (hF.i5_ok (1 : Int) a0 a1 a2 a3) trivial (fun _ => trivial) trivial fun x0_1 hx0_1 => ?_
 let Q3 : Blk := ⟨[.str a0, w34 a1, .i x0_1.2, .i a3], 4, false⟩
 refine oH 1 (atN 3 (ctl1 i45p1)) [(6, .slice 2 7 0 1 7), (5, n29 x0_1.1), (4, .ptr 0 4 0), (2, .ptr 1 7 0), (0, .ptr 0 4 0)] (mkH [Q3, Q2, ⟨e29 x0_1.1, 0, false⟩]) ?_
 refine oZ 6 2 1 7 [.i x0_1.1.f0, .str x0_1.1.f1, q29 x0_1.1.f2, .bool x0_1.1.f3, .bool x0_1.1.f4, w9 x0_1.1.f5, w9 x0_1.1.f6] [0, 2, 4, 5] [] trivial ?_
 let Q4 : Blk := ⟨[.i 23, .str [], w29 ([x0_1.1] : List S28), .bool false, .bool false, .nils, .nils], 7, false⟩
 refine oH 5 i45p2 [(3, .ptr 3 7 0), (7, .agg [.i 23, .str [], w29 ([x0_1.1] : List S28), .bool false, .bool false, .nils, .nils]), (6, w29 ([x0_1.1] : List S28)), (0, .ptr 0 4 0), (2, .ptr 1 7 0), (4, .ptr 0 4 0), (5, n29 x0_1.1)] (mkH [Q3, Q2, ⟨[], 0, false⟩, Q4]) ?_
 refine ok_bT (fun h => ?_) (fun x1_3 hx1_3 => ?_)
 ·let E3 : Env := [(10, .ptr 0 4 0), (9, .agg [.i 23, .str [], w29 ([x0_1.1] : List S28), .bool false, .bool false, .nils, .nils]), (8, .ptr 0 4 0), (3, .ptr 3 7 0), (7, .agg [.i 23, .str [], w29 ([x0_1.1] : List S28), .bool false, .bool false, .nils, .nils]), (6, w29 ([x0_1.1] : List S28)), (0, .ptr 0 4 0), (2, .ptr 1 7 0), (4, .ptr 0 4 0), (5, n29 x0_1.1)]
  exact ok_drawT (eE := ((12, .top) :: (11, .top) :: E3)) ⟨[], [(0, 0, 0), (0, 0, 1), (0, 0, 0), (4, 0, 0), (15, 0, 0), (31, 0, 0)], 3, thrown, [0], (mkH [Q3, Q2, ⟨[], 0, false⟩, Q4])⟩ (hs := [(mkH [Q3, Q2, ⟨[], 0, false⟩, Q4]), (mkH [Q3, Q2, ⟨[], 0, false⟩, Q4]), (mkH [Q3, Q2, ⟨[], 0, false⟩, Q4])]) (LX := [Q1]) (L := [Q3, Q2, ⟨[], 0, false⟩, Q4]) rfl rfl rfl (by kernel_rfl) rfl ⟨.inl rfl, trivial⟩ (by kernel_rfl) (by kernel_rfl) (by kernel_rfl) (by kernel_rfl) (opsD_run 3 (l' := (opsAt i45p2).toList.drop 3) (eE := E3) (H' := (mkH [Q3, Q2, ⟨[], 0, false⟩, Q4])) (hs := []) (by kernel_rfl) (opsD_thr (l' := (opsAt i45p2).toList.drop 4) (eE := ((11, .top) :: E3)) (hs := [(mkH [Q3, Q2, ⟨[], 0, false⟩, Q4])]) (fi := 109) (args := [.ptr 0 4 0]) (by kernel_rfl) (by kernel_rfl) (frS 0 (M := [Q3, Q2, ⟨[], 0, false⟩, Q4]) (rs := [0]) (ms := []) (mv := []) (mm := []) (D := [0]) (xs' := [.ptr 0 4 0]) (.refl) (hF.i49_thr a0 a1 x0_1.2 a3 h) trivial trivial (by kernel_rfl)) (by kernel_rfl) (opsD_dead (l' := (opsAt i45p2).toList.drop 5) (eE := ((12, .top) :: (11, .top) :: E3)) (hs := [(mkH [Q3, Q2, ⟨[], 0, false⟩, Q4])]) (by kernel_rfl) (by kernel_rfl) (opsD_dead (l' := (opsAt i45p2).toList.drop 6) (eE := ((12, .top) :: (11, .top) :: E3)) (hs := [(mkH [Q3, Q2, ⟨[], 0, false⟩, Q4])]) (by kernel_rfl) (by kernel_rfl) (.nil))))) (by kernel_rfl) (by kernel_rfl)
 ·refine ok_bT (fun h => ?_) (fun x1_4 hx1_4 => ?_)
  ·let E3 : Env := [(10, .ptr 0 4 0), (9, .agg [.i 23, .str [], w29 ([x0_1.1] : List S28), .bool false, .bool false, .nils, .nils]), (8, .ptr 0 4 0), (3, .ptr 3 7 0), (7, .agg [.i 23, .str [], w29 ([x0_1.1] : List S28), .bool false, .bool false, .nils, .nils]), (6, w29 ([x0_1.1] : List S28)), (0, .ptr 0 4 0), (2, .ptr 1 7 0), (4, .ptr 0 4 0), (5, n29 x0_1.1)]
   let Q5 : Blk := ⟨[.str a0, w34 a1, .i x1_3.2, .i a3], 4, false⟩
   exact ok_drawT (eE := ((12, .top) :: (11, n29 x1_3.1) :: E3)) ⟨[], [(0, 0, 0), (0, 0, 1), (0, 0, 0), (4, 0, 0), (15, 0, 0), (31, 0, 0)], 4, thrown, [0], (mkH [Q5, Q2, ⟨[], 0, false⟩, Q4])⟩ (hs := [(mkH [Q5, Q2, ⟨[], 0, false⟩, Q4]), (mkH [Q5, Q2, ⟨[], 0, false⟩, Q4]), (mkH [Q5, Q2, ⟨[], 0, false⟩, Q4])]) (LX := [Q1]) (L := [Q5, Q2, ⟨[], 0, false⟩, Q4]) rfl rfl rfl (by kernel_rfl) rfl ⟨.inl rfl, trivial⟩ (by kernel_rfl) (by kernel_rfl) (by kernel_rfl) (by kernel_rfl) (opsD_run 3 (l' := (opsAt i45p2).toList.drop 3) (eE := E3) (H' := (mkH [Q3, Q2, ⟨[], 0, false⟩, Q4])) (hs := []) (by kernel_rfl) (opsD_callM (l' := (opsAt i45p2).toList.drop 4) (eE := ((11, n29 x1_3.1) :: E3)) (hs := [(mkH [Q5, Q2, ⟨[], 0, false⟩, Q4])]) (H' := (mkH [Q5, Q2, ⟨[], 0, false⟩, Q4])) (fi := 109) (args := [.ptr 0 4 0]) (v := n29 x1_3.1) (by kernel_rfl) (frC (rs := [0]) (ms := []) (ms' := []) (hF.i49_ok a0 a1 x0_1.2 a3 x1_3 hx1_3) trivial trivial (by kernel_rfl)) (by kernel_rfl) (opsD_thr (l' := (opsAt i45p2).toList.drop 5) (eE := ((12, .top) :: (11, n29 x1_3.1) :: E3)) (hs := [(mkH [Q5, Q2, ⟨[], 0, false⟩, Q4])]) (fi := 108) (args := [.ptr 0 4 0, .str [], .agg [.i 23, .str [], w29 ([x0_1.1] : List S28), .bool false, .bool false, .nils, .nils], n29 x1_3.1]) (by kernel_rfl) (by kernel_rfl) (frS 0 (M := [Q5, Q2, ⟨[], 0, false⟩, Q4]) (rs := [0]) (ms := []) (mv := []) (mm := []) (D := [0]) (xs' := [.ptr 0 4 0, .str [], .agg [.i 23, .str [], w29 ([x0_1.1] : List S28), .bool false, .bool false, w9 ([] : List (List Nat)), w9 ([] : List (List Nat))], n29 x1_3.1]) (.cons (.cons (.agg (.cons (.cons (.cons (.cons (.cons (.nil (.nil (.refl)))))))) (.refl)))) (hF.i47_thr ([] : List Nat) (23 : Int) ([] : List Nat) (⟨(([x0_1.1] : List S28)).length, (([x0_1.1] : List S28)).flatMap e29⟩ : Raw) false false ([] : List (List Nat)) ([] : List (List Nat)) x1_3.1.f0 x1_3.1.f1 x1_3.1.f2 x1_3.1.f3 x1_3.1.f4 x1_3.1.f5 x1_3.1.f6 a0 a1 x1_3.2 a3 h) trivial trivial (by kernel_rfl)) (by kernel_rfl) (opsD_dead (l' := (opsAt i45p2).toList.drop 6) (eE := ((12, .top) :: (11, n29 x1_3.1) :: E3)) (hs := [(mkH [Q5, Q2, ⟨[], 0, false⟩, Q4])]) (by kernel_rfl) (by kernel_rfl) (.nil))))) (by kernel_rfl) (by kernel_rfl)
  ·let E3 : Env := [(10, .ptr 0 4 0), (9, .agg [.i 23, .str [], w29 ([x0_1.1] : List S28), .bool false, .bool false, .nils, .nils]), (8, .ptr 0 4 0), (3, .ptr 3 7 0), (7, .agg [.i 23, .str [], w29 ([x0_1.1] : List S28), .bool false, .bool false, .nils, .nils]), (6, w29 ([x0_1.1] : List S28)), (0, .ptr 0 4 0), (2, .ptr 1 7 0), (4, .ptr 0 4 0), (5, n29 x0_1.1)]
   let Q6 : Blk := ⟨[.str a0, w34 a1, .i x1_4.2, .i a3], 4, false⟩
   let Q7 : Blk := ⟨[.str a0, w34 a1, .i x1_3.2, .i a3], 4, false⟩
   refine oD (H' := (mkH [Q6, ⟨e29 x1_4.1, 7, false⟩, ⟨[], 0, false⟩, Q4])) (nav [0] i45p2) ((12, n29 x1_4.1) :: (11, n29 x1_3.1) :: E3) [(mkH [Q7, Q2, ⟨[], 0, false⟩, Q4]), (mkH [Q6, Q2, ⟨[], 0, false⟩, Q4]), (mkH [Q6, ⟨e29 x1_4.1, 7, false⟩, ⟨[], 0, false⟩, Q4])] ⟨[], [(0, 0, 0), (0, 0, 1), (0, 0, 0), (4, 0, 0), (15, 0, 0), (31, 0, 0)], 6, thrown, [], H0⟩ (oDr 3 3 E3 (opsD_callM (l' := (opsAt i45p2).toList.drop 4) (eE := ((11, n29 x1_3.1) :: E3)) (hs := [(mkH [Q7, Q2, ⟨[], 0, false⟩, Q4])]) (H' := (mkH [Q7, Q2, ⟨[], 0, false⟩, Q4])) (fi := 109) (args := [.ptr 0 4 0]) (v := n29 x1_3.1) (by kernel_rfl) (frC (rs := [0]) (ms := []) (ms' := []) (hF.i49_ok a0 a1 x0_1.2 a3 x1_3 hx1_3) trivial trivial (by kernel_rfl)) (by kernel_rfl) (opsD_callM (l' := (opsAt i45p2).toList.drop 5) (eE := ((12, n29 x1_4.1) :: (11, n29 x1_3.1) :: E3)) (hs := [(mkH [Q6, Q2, ⟨[], 0, false⟩, Q4])]) (H' := (mkH [Q6, Q2, ⟨[], 0, false⟩, Q4])) (fi := 108) (args := [.ptr 0 4 0, .str [], .agg [.i 23, .str [], w29 ([x0_1.1] : List S28), .bool false, .bool false, .nils, .nils], n29 x1_3.1]) (v := n29 x1_4.1) (by kernel_rfl) (frW 0 [Q7, Q2, ⟨[], 0, false⟩, Q4] (rs := [0]) (ms := []) (ms' := []) (mv := []) (xs' := [.ptr 0 4 0, .str [], .agg [.i 23, .str [], w29 ([x0_1.1] : List S28), .bool false, .bool false, w9 ([] : List (List Nat)), w9 ([] : List (List Nat))], n29 x1_3.1]) (.cons (.cons (.agg (.cons (.cons (.cons (.cons (.cons (.nil (.nil (.refl)))))))) (.refl)))) (hF.i47_ok ([] : List Nat) (23 : Int) ([] : List Nat) (⟨(([x0_1.1] : List S28)).length, (([x0_1.1] : List S28)).flatMap e29⟩ : Raw) false false ([] : List (List Nat)) ([] : List (List Nat)) x1_3.1.f0 x1_3.1.f1 x1_3.1.f2 x1_3.1.f3 x1_3.1.f4 x1_3.1.f5 x1_3.1.f6 a0 a1 x1_3.2 a3 x1_4 hx1_4) trivial trivial (by kernel_rfl)) (by kernel_rfl) (oDh 1 6 ((12, n29 x1_4.1) :: (11, n29 x1_3.1) :: E3) (mkH [Q6, ⟨e29 x1_4.1, 7, false⟩, ⟨[], 0, false⟩, Q4]) [(mkH [Q6, ⟨e29 x1_4.1, 7, false⟩, ⟨[], 0, false⟩, Q4])] .nil)))) ?_
   exact oQF 1 [Q6, ⟨e29 x1_4.1, 7, false⟩, ⟨[], 0, false⟩, Q4] 1 [] [n29 x1_4.1] (n29 x1_4.1) .ps trivial
theorem i45B_ok (k : Nat) (F : Fns0) (hF : FnsOk0 F) : Pi45 (i45B k F) := fun a0 a1 a2 a3 x h => i45B_all k F hF a0 a1 a2 a3 (some x) h
theorem i45B_thr (k : Nat) (F : Fns0) (hF : FnsOk0 F) : Qi45 (i45B k F) := fun a0 a1 a2 a3 h => ⟨_, i45B_all k F hF a0 a1 a2 a3 none h⟩
end
end Go.Proofs.Ythpplbkobokghaa.Am
set_option maxRecDepth 100000
set_option linter.unusedVariables false
namespace Go.Proofs.Ythpplbkobokghaa.Am
noncomputable section
open Go
def Xi46 (a0 : (List Nat)) (a1 : (List S33)) (a2 : Int) (a3 : Int) : Fx (Option (S28 × Int)) := ⟨Try.prog, cx, Try.f101, fun r => match r with | some r => .agg [.i r.1.f0, .str r.1.f1, q29 r.1.f2, .bool r.1.f3, .bool r.1.f4, w9 r.1.f5, w9 r.1.f6] | none => .top, 1, fun r => match r with | some r => (mkH [⟨[.str a0, w34 a1, .i r.2, .i a3], 4, false⟩]) | none => (mkH [⟨[.str a0, w34 a1, .i a2, .i a3], 4, false⟩]), cxTi, cxOrd, fun r => match r with | some _ => none | none => some (thrown, [0]), false⟩
def i46p0 : Pt := nav [0] (bodyAt Try.f101)
def i46p1 : Pt := nav [0, 0, 0] i46p0
def i46B (k : Nat) (F : Fns0) (a0 : (List Nat)) (a1 : (List S33)) (a2 : Int) (a3 : Int) : Option (Option (S28 × Int)) :=
 bT (F.i50 a0 a1 a2 a3) fun x0_3 => bT (F.i47 ([] : List Nat) (23 : Int) ([] : List Nat) (⟨(([] : List S28)).length, (([] : List S28)).flatMap e29⟩ : Raw) false false ([] : List (List Nat)) ([] : List (List Nat)) x0_3.1.f0 x0_3.1.f1 x0_3.1.f2 x0_3.1.f3 x0_3.1.f4 x0_3.1.f5 x0_3.1.f6 a0 a1 x0_3.2 a3) fun x0_4 => some (some ((⟨x0_4.1.f0, x0_4.1.f1, x0_4.1.f2, x0_4.1.f3, x0_4.1.f4, x0_4.1.f5, x0_4.1.f6⟩ : S28), x0_4.2))
theorem i46B_all (k : Nat) (F : Fns0) (hF : FnsOk0 F) (a0 : (List Nat)) (a1 : (List S33)) (a2 : Int) (a3 : Int) (r : (Option (S28 × Int))) (h : i46B k F a0 a1 a2 a3 = some r) : CallT Try.prog 101 [.ptr 0 4 0] (mkH [⟨[.str a0, w34 a1, .i a2, .i a3], 4, false⟩]) ((Xi46 a0 a1 a2 a3).thr r) ((Xi46 a0 a1 a2 a3).enc r) ((Xi46 a0 a1 a2 a3).fin r) := by
 refine callM_of (Xi46 a0 a1 a2 a3) Try.func101 (by kernel_rfl) (by kernel_rfl) rfl (t := i46B k F a0 a1 a2 a3) ?_ h
 unfold i46B
 refine ok_env (eE := [(0, .ptr 0 4 0)]) (by kernel_rfl) ?_
 let Q1 : Blk := ⟨[.i 0, .str [], .nils, .bool false, .bool false, .nils, .nils], 0, false⟩
 refine oH 9 (atN 3 (ctl1 i46p1)) [(5, .ptr 0 4 0), (4, .agg [.i 23, .str [], .nils, .bool false, .bool false, .nils, .nils]), (3, .ptr 0 4 0), (2, .ptr 1 7 0), (0, .ptr 0 4 0)] (mkH [⟨[.str a0, w34 a1, .i a2, .i a3], 4, false⟩, Q1]) ?_
 refine oX (fun (x0_3 : (S28 × Int)) => n29 x0_3.1) (fun x0_3 => [⟨[.str a0, w34 a1, .i x0_3.2, .i a3], 4, false⟩, Q1]) (atN 4 (ctl1 i46p1)) 6 [0] [] [] [0] [] [.ptr 0 4 0] (hF.i50_thr a0 a1 a2 a3) (hF.i50_ok a0 a1 a2 a3) trivial (fun _ => trivial) trivial fun x0_3 hx0_3 => ?_
 refine oXW 0 [⟨[.str a0, w34 a1, .i x0_3.2, .i a3], 4, false⟩, Q1] (fun (x0_4 : (S28 × Int)) => n29 x0_4.1) (fun x0_4 => [⟨[.str a0, w34 a1, .i x0_4.2, .i a3], 4, false⟩, Q1]) (atN 5 (ctl1 i46p1)) 7 [0] [] [] [0] [] [] [.ptr 0 4 0, .str [], .agg [.i 23, .str [], .nils, .bool false, .bool false, .nils, .nils], n29 x0_3.1] [.ptr 0 4 0, .str [], .agg [.i 23, .str [], w29 ([] : List S28), .bool false, .bool false, w9 ([] : List (List Nat)), w9 ([] : List (List Nat))], n29 x0_3.1] (.cons (.cons (.agg (.cons (.cons (.nil (.cons (.cons (.nil (.nil (.refl)))))))) (.refl)))) (hF.i47_thr ([] : List Nat) (23 : Int) ([] : List Nat) (⟨(([] : List S28)).length, (([] : List S28)).flatMap e29⟩ : Raw) false false ([] : List (List Nat)) ([] : List (List Nat)) x0_3.1.f0 x0_3.1.f1 x0_3.1.f2 x0_3.1.f3 x0_3.1.f4 x0_3.1.f5 x0_3.1.f6 a0 a1 x0_3.2 a3) (hF.i47_ok ([] : List Nat) (23 : Int) ([] : List Nat) (⟨(([] : List S28)).length, (([] : List S28)).flatMap e29⟩ : Raw) false false ([] : List (List Nat)) ([] : List (List Nat)) x0_3.1.f0 x0_3.1.f1 x0_3.1.f2 x0_3.1.f3 x0_3.1.f4 x0_3.1.f5 x0_3.1.f6 a0 a1 x0_3.2 a3) trivial (fun _ => trivial) trivial fun x0_4 hx0_4 => ?_
 exact oQF 3 [⟨[.str a0, w34 a1, .i x0_4.2, .i a3], 4, false⟩, ⟨e29 x0_4.1, 7, false⟩] 1 [] [n29 x0_4.1] (n29 x0_4.1) .ps trivial
theorem i46B_ok (k : Nat) (F : Fns0) (hF : FnsOk0 F) : Pi46 (i46B k F) := fun a0 a1 a2 a3 x h => i46B_all k F hF a0 a1 a2 a3 (some x) h
theorem i46B_thr (k : Nat) (F : Fns0) (hF : FnsOk0 F) : Qi46 (i46B k F) := fun a0 a1 a2 a3 h => ⟨_, i46B_all k F hF a0 a1 a2 a3 none h⟩
end
end Go.Proofs.Ythpplbkobokghaa.Am
set_option maxRecDepth 100000
set_option linter.unusedVariables false
namespace Go.Proofs.Ythpplbkobokghaa.Am
noncomputable section
open Go
def Xi47 (a0 : (List Nat)) (a1 : Int) (a2 : (List Nat)) (a3 : Raw) (a4 : Bool) (a5 : Bool) (a6 : (List (List Nat))) (a7 : (List (List Nat))) (a8 : Int) (a9 : (List Nat)) (a10 : Raw) (a11 : Bool) (a12 : Bool) (a13 : (List (List Nat))) (a14 : (List (List Nat))) (a15 : (List Nat)) (a16 : (List S33)) (a17 : Int) (a18 : Int) : Fx (Option (S28 × Int)) := ⟨Try.prog, cx, Try.f108, fun r => match r with | some r => .agg [.i r.1.f0, .str r.1.f1, q29 r.1.f2, .bool r.1.f3, .bool r.1.f4, w9 r.1.f5, w9 r.1.f6] | none => .top, 1, fun r => match r with | some r => (mkH [⟨[.str a15, w34 a16, .i r.2, .i a18], 4, false⟩]) | none => (mkH [⟨[.str a15, w34 a16, .i a17, .i a18], 4, false⟩]), cxTi, cxOrd, fun r => match r with | some _ => none | none => some (thrown, [0]), false⟩
def i47p0 : Pt := nav [0] (bodyAt Try.f108)
def i47p1 : Pt := nav [0, 0, 0] i47p0
def i47p2 : Pt := nav [0, 0, 0] i47p1
def i47p3 : Pt := nav [0, 0, 0] i47p2
def i47B (k : Nat) (F : Fns0) (a0 : (List Nat)) (a1 : Int) (a2 : (List Nat)) (a3 : Raw) (a4 : Bool) (a5 : Bool) (a6 : (List (List Nat))) (a7 : (List (List Nat))) (a8 : Int) (a9 : (List Nat)) (a10 : Raw) (a11 : Bool) (a12 : Bool) (a13 : (List (List Nat))) (a14 : (List (List Nat))) (a15 : (List Nat)) (a16 : (List S33)) (a17 : Int) (a18 : Int) : Option (Option (S28 × Int)) :=
 bT (i23 k ([45, 62] : List Nat) a15 a16 a17 a18) fun x0_1 => (i28 k a15 a16 x0_1 a18).bind fun x1_2 => bT (F.i6 a15 a16 x0_1 a18) fun x2_3 => some (some ((⟨(22 : Int), a0, ⟨(([(⟨a1, a2, a3, a4, a5, a6, a7⟩ : S28), (⟨a8, a9, a10, a11, a12, a13, a14⟩ : S28), (⟨x2_3.1.f0, x2_3.1.f1, x2_3.1.f2, x2_3.1.f3, x2_3.1.f4, x2_3.1.f5, x2_3.1.f6⟩ : S28)] : List S28)).length, (([(⟨a1, a2, a3, a4, a5, a6, a7⟩ : S28), (⟨a8, a9, a10, a11, a12, a13, a14⟩ : S28), (⟨x2_3.1.f0, x2_3.1.f1, x2_3.1.f2, x2_3.1.f3, x2_3.1.f4, x2_3.1.f5, x2_3.1.f6⟩ : S28)] : List S28)).flatMap e29⟩, x1_2, false, ([] : List (List Nat)), ([] : List (List Nat))⟩ : S28), x2_3.2))
theorem i47B_all (k : Nat) (F : Fns0) (hF : FnsOk0 F) (a0 : (List Nat)) (a1 : Int) (a2 : (List Nat)) (a3 : Raw) (a4 : Bool) (a5 : Bool) (a6 : (List (List Nat))) (a7 : (List (List Nat))) (a8 : Int) (a9 : (List Nat)) (a10 : Raw) (a11 : Bool) (a12 : Bool) (a13 : (List (List Nat))) (a14 : (List (List Nat))) (a15 : (List Nat)) (a16 : (List S33)) (a17 : Int) (a18 : Int) (r : (Option (S28 × Int))) (h : i47B k F a0 a1 a2 a3 a4 a5 a6 a7 a8 a9 a10 a11 a12 a13 a14 a15 a16 a17 a18 = some r) : CallT Try.prog 108 [.ptr 0 4 0, .str a0, .agg [.i a1, .str a2, q29 a3, .bool a4, .bool a5, w9 a6, w9 a7], .agg [.i a8, .str a9, q29 a10, .bool a11, .bool a12, w9 a13, w9 a14]] (mkH [⟨[.str a15, w34 a16, .i a17, .i a18], 4, false⟩]) ((Xi47 a0 a1 a2 a3 a4 a5 a6 a7 a8 a9 a10 a11 a12 a13 a14 a15 a16 a17 a18).thr r) ((Xi47 a0 a1 a2 a3 a4 a5 a6 a7 a8 a9 a10 a11 a12 a13 a14 a15 a16 a17 a18).enc r) ((Xi47 a0 a1 a2 a3 a4 a5 a6 a7 a8 a9 a10 a11 a12 a13 a14 a15 a16 a17 a18).fin r) := by
 refine callM_of (Xi47 a0 a1 a2 a3 a4 a5 a6 a7 a8 a9 a10 a11 a12 a13 a14 a15 a16 a17 a18) Try.func108 (by kernel_rfl) (by kernel_rfl) rfl (t := i47B k F a0 a1 a2 a3 a4 a5 a6 a7 a8 a9 a10 a11 a12 a13 a14 a15 a16 a17 a18) ?_ h
 unfold i47B
 refine ok_env (eE := [(0, .ptr 0 4 0), (1, .str a0), (2, .agg [.i a1, .str a2, q29 a3, .bool a4, .bool a5, w9 a6, w9 a7]), (3, .agg [.i a8, .str a9, q29 a10, .bool a11, .bool a12, w9 a13, w9 a14])]) (by kernel_rfl) ?_
 let E1 : Env := [(10, .ptr 0 4 0), (8, .ptr 3 7 0), (7, .ptr 2 7 0), (6, .ptr 1 7 0), (0, .ptr 0 4 0), (1, .str a0), (2, .agg [.i a1, .str a2, q29 a3, .bool a4, .bool a5, w9 a6, w9 a7]), (3, .agg [.i a8, .str a9, q29 a10, .bool a11, .bool a12, w9 a13, w9 a14])]
 let Q1 : Blk := ⟨[.str a15, w34 a16, .i a17, .i a18], 4, false⟩
 let Q2 : Blk := ⟨[.i a1, .str a2, q29 a3, .bool a4, .bool a5, w9 a6, w9 a7], 0, false⟩
 let Q3 : Blk := ⟨[.i a8, .str a9, q29 a10, .bool a11, .bool a12, w9 a13, w9 a14], 0, false⟩
 let Q4 : Blk := ⟨[.i 0, .str [], .nils, .bool false, .bool false, .nils, .nils], 0, false⟩
 refine oH 9 (atN 1 (ctl1 i47p1)) E1 (mkH [Q1, Q2, Q3, Q4]) ?_
 refine oX (fun (x0_1 : Int) => .tuple []) (fun x0_1 => [⟨[.str a15, w34 a16, .i x0_1, .i a18], 4, false⟩, Q2, Q3, Q4]) (atN 2 (ctl1 i47p1)) 11 [0] [] [] [0] [] [.ptr 0 4 0, .str [45, 62]] (i23_thr k ([45, 62] : List Nat) a15 a16 a17 a18) (i23_ok k ([45, 62] : List Nat) a15 a16 a17 a18) trivial (fun _ => trivial) trivial fun x0_1 hx0_1 => ?_
 refine oR 5 (atN 2 (ctl1 i47p2)) ((13, .ptr 0 4 0) :: (12, .str a0) :: (11, .tuple []) :: E1) ?_
 let Q5 : Blk := ⟨[.str a15, w34 a16, .i x0_1, .i a18], 4, false⟩
 refine oN (fun (x1_2 : Bool) => .bool x1_2) (fun x1_2 => [Q5, Q2, Q3, Q4]) (atN 3 (ctl1 i47p2)) 14 [0] [] [] [.ptr 0 4 0] (i28_ok k a15 a16 x0_1 a18) trivial (fun _ => trivial) fun x1_2 hx1_2 => ?_
 let Q6 : Blk := ⟨[.i 22, .str a0, .nils, .bool x1_2, .bool false, .nils, .nils], 7, false⟩
 refine oLH 5 i47p3 [(0, .ptr 0 4 0), (6, .ptr 1 7 0), (7, .ptr 2 7 0), (8, .ptr 3 7 0), (9, .ptr 4 7 0)] (mkH [Q5, Q2, Q3, Q4, Q6]) ?_
 refine ok_bT (fun h => ?_) (fun x2_3 hx2_3 => ?_)
 ·let E4 : Env := [(18, .ptr 0 4 0), (17, .agg [.i a8, .str a9, q29 a10, .bool a11, .bool a12, w9 a13, w9 a14]), (16, .agg [.i a1, .str a2, q29 a3, .bool a4, .bool a5, w9 a6, w9 a7]), (0, .ptr 0 4 0), (6, .ptr 1 7 0), (7, .ptr 2 7 0), (8, .ptr 3 7 0), (9, .ptr 4 7 0)]
  exact ok_drawT (eE := ((21, .top) :: (20, .top) :: (19, .top) :: E4)) ⟨[20], [(0, 0, 1), (0, 0, 1), (0, 0, 0), (4, 0, 0), (15, 0, 0), (31, 0, 0), (63, 0, 0)], 3, thrown, [0], (mkH [Q5, Q2, Q3, Q4, Q6])⟩ (hs := [(mkH [Q5, Q2, Q3, Q4, Q6]), (mkH [Q5, Q2, Q3, Q4, Q6])]) (LX := [Q1]) (L := [Q5, Q2, Q3, Q4, Q6]) rfl rfl rfl (by kernel_rfl) rfl ⟨.inl rfl, trivial⟩ (by kernel_rfl) (by kernel_rfl) (by kernel_rfl) (by kernel_rfl) (opsD_run 3 (l' := (opsAt i47p3).toList.drop 3) (eE := E4) (H' := (mkH [Q5, Q2, Q3, Q4, Q6])) (hs := []) (by kernel_rfl) (opsD_thr (l' := (opsAt i47p3).toList.drop 4) (eE := ((19, .top) :: E4)) (hs := [(mkH [Q5, Q2, Q3, Q4, Q6])]) (fi := 35) (args := [.ptr 0 4 0]) (by kernel_rfl) (by kernel_rfl) (frS 0 (M := [Q5, Q2, Q3, Q4, Q6]) (rs := [0]) (ms := []) (mv := []) (mm := []) (D := [0]) (xs' := [.ptr 0 4 0]) (.refl) (hF.i6_thr a15 a16 x0_1 a18 h) trivial trivial (by kernel_rfl)) (by kernel_rfl) (opsD_dead (l' := (opsAt i47p3).toList.drop 5) (eE := ((20, .top) :: (19, .top) :: E4)) (hs := []) (by kernel_rfl) (by kernel_rfl) (opsD_dead (l' := (opsAt i47p3).toList.drop 6) (eE := ((21, .top) :: (20, .top) :: (19, .top) :: E4)) (hs := []) (by kernel_rfl) (by kernel_rfl) (opsD_dead (l' := (opsAt i47p3).toList.drop 7) (eE := ((21, .top) :: (20, .top) :: (19, .top) :: E4)) (hs := [(mkH [Q5, Q2, Q3, Q4, Q6])]) (by kernel_rfl) (by kernel_rfl) (.nil)))))) (by kernel_rfl) (by kernel_rfl)
 ·let E4 : Env := [(18, .ptr 0 4 0), (17, .agg [.i a8, .str a9, q29 a10, .bool a11, .bool a12, w9 a13, w9 a14]), (16, .agg [.i a1, .str a2, q29 a3, .bool a4, .bool a5, w9 a6, w9 a7]), (0, .ptr 0 4 0), (6, .ptr 1 7 0), (7, .ptr 2 7 0), (8, .ptr 3 7 0), (9, .ptr 4 7 0)]
  let Q7 : Blk := ⟨[.str a15, w34 a16, .i x2_3.2, .i a18], 4, false⟩
  let Q8 : Blk := ⟨[.i 22, .str a0, w29 ([(⟨a1, a2, a3, a4, a5, a6, a7⟩ : S28), (⟨a8, a9, a10, a11, a12, a13, a14⟩ : S28), x2_3.1] : List S28), .bool x1_2, .bool false, .nils, .nils], 7, false⟩
  refine oD (H' := (mkH [Q7, Q2, Q3, Q4, Q8])) (nav [0] i47p3) ((21, .ptr 4 7 2) :: (20, w29 ([(⟨a1, a2, a3, a4, a5, a6, a7⟩ : S28), (⟨a8, a9, a10, a11, a12, a13, a14⟩ : S28), x2_3.1] : List S28)) :: (19, n29 x2_3.1) :: E4) [(mkH [Q7, Q2, Q3, Q4, Q6]), (mkH [Q7, Q2, Q3, Q4, Q8])] ⟨[20], [(0, 0, 1), (0, 0, 1), (0, 0, 0), (4, 0, 0), (15, 0, 0), (31, 0, 0), (63, 0, 0)], 7, thrown, [], H0⟩ (oDr 3 3 E4 (opsD_callM (l' := (opsAt i47p3).toList.drop 4) (eE := ((19, n29 x2_3.1) :: E4)) (hs := [(mkH [Q7, Q2, Q3, Q4, Q6])]) (H' := (mkH [Q7, Q2, Q3, Q4, Q6])) (fi := 35) (args := [.ptr 0 4 0]) (v := n29 x2_3.1) (by kernel_rfl) (frC (rs := [0]) (ms := []) (ms' := []) (hF.i6_ok a15 a16 x0_1 a18 x2_3 hx2_3) trivial trivial (by kernel_rfl)) (by kernel_rfl) (oDh 3 7 ((21, .ptr 4 7 2) :: (20, w29 ([(⟨a1, a2, a3, a4, a5, a6, a7⟩ : S28), (⟨a8, a9, a10, a11, a12, a13, a14⟩ : S28), x2_3.1] : List S28)) :: (19, n29 x2_3.1) :: E4) (mkH [Q7, Q2, Q3, Q4, Q8]) [(mkH [Q7, Q2, Q3, Q4, Q8])] .nil))) ?_
  exact oQF 6 [Q7, Q2, Q3, Q8, Q8] 1 [] [.agg [.i 22, .str a0, w29 ([(⟨a1, a2, a3, a4, a5, a6, a7⟩ : S28), (⟨a8, a9, a10, a11, a12, a13, a14⟩ : S28), x2_3.1] : List S28), .bool x1_2, .bool false, .nils, .nils]] (.agg [.i 22, .str a0, w29 ([(⟨a1, a2, a3, a4, a5, a6, a7⟩ : S28), (⟨a8, a9, a10, a11, a12, a13, a14⟩ : S28), x2_3.1] : List S28), .bool x1_2, .bool false, .vec 0 1 [], .vec 0 1 []]) (.agg (.cs (.cs (.cs (.cs (.cs (.nil (.nil .ps))))))) .ps) trivial
theorem i47B_ok (k : Nat) (F : Fns0) (hF : FnsOk0 F) : Pi47 (i47B k F) := fun a0 a1 a2 a3 a4 a5 a6 a7 a8 a9 a10 a11 a12 a13 a14 a15 a16 a17 a18 x h => i47B_all k F hF a0 a1 a2 a3 a4 a5 a6 a7 a8 a9 a10 a11 a12 a13 a14 a15 a16 a17 a18 (some x) h
theorem i47B_thr (k : Nat) (F : Fns0) (hF : FnsOk0 F) : Qi47 (i47B k F) := fun a0 a1 a2 a3 a4 a5 a6 a7 a8 a9 a10 a11 a12 a13 a14 a15 a16 a17 a18 h => ⟨_, i47B_all k F hF a0 a1 a2 a3 a4 a5 a6 a7 a8 a9 a10 a11 a12 a13 a14 a15 a16 a17 a18 none h⟩
end
end Go.Proofs.Ythpplbkobokghaa.Am
set_option maxRecDepth 100000
set_option linter.unusedVariables false
namespace Go.Proofs.Ythpplbkobokghaa.Am
noncomputable section
open Go
def Xi48 (a0 : (List Nat)) (a1 : (List Nat)) (a2 : (List S33)) (a3 : Int) (a4 : Int) : Fx (Option (S28 × Int)) := ⟨Try.prog, cx, Try.f107, fun r => match r with | some r => .agg [.i r.1.f0, .str r.1.f1, q29 r.1.f2, .bool r.1.f3, .bool r.1.f4, w9 r.1.f5, w9 r.1.f6] | none => .top, 1, fun r => match r with | some r => (mkH [⟨[.str a1, w34 a2, .i r.2, .i a4], 4, false⟩]) | none => (mkH [⟨[.str a1, w34 a2, .i a3, .i a4], 4, false⟩]), cxTi, cxOrd, fun r => match r with | some _ => none | none => some (thrown, [0]), false⟩
def i48p0 : Pt := nav [0] (bodyAt Try.f107)
def i48p1 : Pt := nav [0, 0, 0] i48p0
def i48p2 : Pt := nav [0, 0, 0] i48p1
def i48B (k : Nat) (F : Fns0) (a0 : (List Nat)) (a1 : (List Nat)) (a2 : (List S33)) (a3 : Int) (a4 : Int) : Option (Option (S28 × Int)) :=
 bT (F.i51 a1 a2 a3 a4) fun x0_1 => bT (F.i49 a1 a2 x0_1.2 a4) fun x1_4 => bT (F.i47 a0 x0_1.1.f0 x0_1.1.f1 x0_1.1.f2 x0_1.1.f3 x0_1.1.f4 x0_1.1.f5 x0_1.1.f6 x1_4.1.f0 x1_4.1.f1 x1_4.1.f2 x1_4.1.f3 x1_4.1.f4 x1_4.1.f5 x1_4.1.f6 a1 a2 x1_4.2 a4) fun x1_5 => some (some ((⟨x1_5.1.f0, x1_5.1.f1, x1_5.1.f2, x1_5.1.f3, x1_5.1.f4, x1_5.1.f5, x1_5.1.f6⟩ : S28), x1_5.2))
theorem i48B_all (k : Nat) (F : Fns0) (hF : FnsOk0 F) (a0 : (List Nat)) (a1 : (List Nat)) (a2 : (List S33)) (a3 : Int) (a4 : Int) (r : (Option (S28 × Int))) (h : i48B k F a0 a1 a2 a3 a4 = some r) : CallT Try.prog 107 [.ptr 0 4 0, .str a0] (mkH [⟨[.str a1, w34 a2, .i a3, .i a4], 4, false⟩]) ((Xi48 a0 a1 a2 a3 a4).thr r) ((Xi48 a0 a1 a2 a3 a4).enc r) ((Xi48 a0 a1 a2 a3 a4).fin r) := by
 refine callM_of (Xi48 a0 a1 a2 a3 a4) Try.func107 (by kernel_rfl) (by kernel_rfl) rfl (t := i48B k F a0 a1 a2 a3 a4) ?_ h
 unfold i48B
 refine ok_env (eE := [(0, .ptr 0 4 0), (1, .str a0)]) (by kernel_rfl) ?_
 let Q1 : Blk := ⟨[.str a1, w34 a2, .i a3, .i a4], 4, false⟩
 let Q2 : Blk := ⟨[.i 0, .str [], .nils, .bool false, .bool false, .nils, .nils], 0, false⟩
 refine oH 7 (atN 1 (ctl1 i48p1)) [(6, .ptr 0 4 0), (4, .ptr 1 7 0), (0, .ptr 0 4 0), (1, .str a0)] (mkH [Q1, Q2]) ?_
 refine oX (fun (x0_1 : (S28 × Int)) => n29 x0_1.1) (fun x0_1 => [⟨[.str a1, w34 a2, .i x0_1.2, .i a4], 4, false⟩, Q2]) (atN 2 (ctl1 i48p1)) 7 [0] [] [] [0] [] [.ptr 0 4 0] (hF.i51_thr a1 a2 a3 a4) (hF.i51_ok a1 a2 a3 a4) trivial (fun _ => trivial) trivial fun x0_1 hx0_1 => ?_
 let Q3 : Blk := ⟨[.str a1, w34 a2, .i x0_1.2, .i a4], 4, false⟩
 refine oH 4 i48p2 [(5, .ptr 2 7 0), (7, n29 x0_1.1), (6, .ptr 0 4 0), (4, .ptr 1 7 0), (0, .ptr 0 4 0), (1, .str a0)] (mkH [Q3, Q2, ⟨e29 x0_1.1, 7, false⟩]) ?_
 refine ok_bT (fun h => ?_) (fun x1_4 hx1_4 => ?_)
 ·let E2 : Env := [(11, .ptr 0 4 0), (10, n29 x0_1.1), (9, .str a0), (8, .ptr 0 4 0), (5, .ptr 2 7 0), (7, n29 x0_1.1), (6, .ptr 0 4 0), (4, .ptr 1 7 0), (0, .ptr 0 4 0), (1, .str a0)]
  exact ok_drawT (eE := ((13, .top) :: (12, .top) :: E2)) ⟨[], [(0, 0, 0), (0, 0, 0), (0, 0, 1), (0, 0, 0), (8, 0, 0), (31, 0, 0), (63, 0, 0)], 4, thrown, [0], (mkH [Q3, Q2, ⟨e29 x0_1.1, 7, false⟩])⟩ (hs := [(mkH [Q3, Q2, ⟨e29 x0_1.1, 7, false⟩]), (mkH [Q3, Q2, ⟨e29 x0_1.1, 7, false⟩]), (mkH [Q3, Q2, ⟨e29 x0_1.1, 7, false⟩])]) (LX := [Q1]) (L := [Q3, Q2, ⟨e29 x0_1.1, 7, false⟩]) rfl rfl rfl (by kernel_rfl) rfl ⟨.inl rfl, trivial⟩ (by kernel_rfl) (by kernel_rfl) (by kernel_rfl) (by kernel_rfl) (opsD_run 4 (l' := (opsAt i48p2).toList.drop 4) (eE := E2) (H' := (mkH [Q3, Q2, ⟨e29 x0_1.1, 7, false⟩])) (hs := []) (by kernel_rfl) (opsD_thr (l' := (opsAt i48p2).toList.drop 5) (eE := ((12, .top) :: E2)) (hs := [(mkH [Q3, Q2, ⟨e29 x0_1.1, 7, false⟩])]) (fi := 109) (args := [.ptr 0 4 0]) (by kernel_rfl) (by kernel_rfl) (frS 0 (M := [Q3, Q2, ⟨e29 x0_1.1, 7, false⟩]) (rs := [0]) (ms := []) (mv := []) (mm := []) (D := [0]) (xs' := [.ptr 0 4 0]) (.refl) (hF.i49_thr a1 a2 x0_1.2 a4 h) trivial trivial (by kernel_rfl)) (by kernel_rfl) (opsD_dead (l' := (opsAt i48p2).toList.drop 6) (eE := ((13, .top) :: (12, .top) :: E2)) (hs := [(mkH [Q3, Q2, ⟨e29 x0_1.1, 7, false⟩])]) (by kernel_rfl) (by kernel_rfl) (opsD_dead (l' := (opsAt i48p2).toList.drop 7) (eE := ((13, .top) :: (12, .top) :: E2)) (hs := [(mkH [Q3, Q2, ⟨e29 x0_1.1, 7, false⟩])]) (by kernel_rfl) (by kernel_rfl) (.nil))))) (by kernel_rfl) (by kernel_rfl)
 ·refine ok_bT (fun h => ?_) (fun x1_5 hx1_5 => ?_)
  ·let E2 : Env := [(11, .ptr 0 4 0), (10, n29 x0_1.1), (9, .str a0), (8, .ptr 0 4 0), (5, .ptr 2 7 0), (7, n29 x0_1.1), (6, .ptr 0 4 0), (4, .ptr 1 7 0), (0, .ptr 0 4 0), (1, .str a0)]
   let Q4 : Blk := ⟨[.str a1, w34 a2, .i x1_4.2, .i a4], 4, false⟩
   exact ok_drawT (eE := ((13, .top) :: (12, n29 x1_4.1) :: E2)) ⟨[], [(0, 0, 0), (0, 0, 0), (0, 0, 1), (0, 0, 0), (8, 0, 0), (31, 0, 0), (63, 0, 0)], 5, thrown, [0], (mkH [Q4, Q2, ⟨e29 x0_1.1, 7, false⟩])⟩ (hs := [(mkH [Q4, Q2, ⟨e29 x0_1.1, 7, false⟩]), (mkH [Q4, Q2, ⟨e29 x0_1.1, 7, false⟩]), (mkH [Q4, Q2, ⟨e29 x0_1.1, 7, false⟩])]) (LX := [Q1]) (L := [Q4, Q2, ⟨e29 x0_1.1, 7, false⟩]) rfl rfl rfl (by kernel_rfl) rfl ⟨.inl rfl, trivial⟩ (by kernel_rfl) (by kernel_rfl) (by kernel_rfl) (by kernel_rfl) (opsD_run 4 (l' := (opsAt i48p2).toList.drop 4) (eE := E2) (H' := (mkH [Q3, Q2, ⟨e29 x0_1.1, 7, false⟩])) (hs := []) (by kernel_rfl) (opsD_callM (l' := (opsAt i48p2).toList.drop 5) (eE := ((12, n29 x1_4.1) :: E2)) (hs := [(mkH [Q4, Q2, ⟨e29 x0_1.1, 7, false⟩])]) (H' := (mkH [Q4, Q2, ⟨e29 x0_1.1, 7, false⟩])) (fi := 109) (args := [.ptr 0 4 0]) (v := n29 x1_4.1) (by kernel_rfl) (frC (rs := [0]) (ms := []) (ms' := []) (hF.i49_ok a1 a2 x0_1.2 a4 x1_4 hx1_4) trivial trivial (by kernel_rfl)) (by kernel_rfl) (opsD_thr (l' := (opsAt i48p2).toList.drop 6) (eE := ((13, .top) :: (12, n29 x1_4.1) :: E2)) (hs := [(mkH [Q4, Q2, ⟨e29 x0_1.1, 7, false⟩])]) (fi := 108) (args := [.ptr 0 4 0, .str a0, n29 x0_1.1, n29 x1_4.1]) (by kernel_rfl) (by kernel_rfl) (frS 0 (M := [Q4, Q2, ⟨e29 x0_1.1, 7, false⟩]) (rs := [0]) (ms := []) (mv := []) (mm := []) (D := [0]) (xs' := [.ptr 0 4 0, .str a0, n29 x0_1.1, n29 x1_4.1]) (.refl) (hF.i47_thr a0 x0_1.1.f0 x0_1.1.f1 x0_1.1.f2 x0_1.1.f3 x0_1.1.f4 x0_1.1.f5 x0_1.1.f6 x1_4.1.f0 x1_4.1.f1 x1_4.1.f2 x1_4.1.f3 x1_4.1.f4 x1_4.1.f5 x1_4.1.f6 a1 a2 x1_4.2 a4 h) trivial trivial (by kernel_rfl)) (by kernel_rfl) (opsD_dead (l' := (opsAt i48p2).toList.drop 7) (eE := ((13, .top) :: (12, n29 x1_4.1) :: E2)) (hs := [(mkH [Q4, Q2, ⟨e29 x0_1.1, 7, false⟩])]) (by kernel_rfl) (by kernel_rfl) (.nil))))) (by kernel_rfl) (by kernel_rfl)
  ·let E2 : Env := [(11, .ptr 0 4 0), (10, n29 x0_1.1), (9, .str a0), (8, .ptr 0 4 0), (5, .ptr 2 7 0), (7, n29 x0_1.1), (6, .ptr 0 4 0), (4, .ptr 1 7 0), (0, .ptr 0 4 0), (1, .str a0)]
   let Q5 : Blk := ⟨[.str a1, w34 a2, .i x1_5.2, .i a4], 4, false⟩
   let Q6 : Blk := ⟨[.str a1, w34 a2, .i x1_4.2, .i a4], 4, false⟩
   let K1 : List Blk := [Q5, ⟨e29 x1_5.1, 7, false⟩, ⟨e29 x0_1.1, 7, false⟩]
   refine oD (H' := (mkH K1)) (nav [0] i48p2) ((13, n29 x1_5.1) :: (12, n29 x1_4.1) :: E2) [(mkH [Q6, Q2, ⟨e29 x0_1.1, 7, false⟩]), (mkH [Q5, Q2, ⟨e29 x0_1.1, 7, false⟩]), (mkH K1)] ⟨[], [(0, 0, 0), (0, 0, 0), (0, 0, 1), (0, 0, 0), (8, 0, 0), (31, 0, 0), (63, 0, 0)], 7, thrown, [], H0⟩ (oDr 4 4 E2 (opsD_callM (l' := (opsAt i48p2).toList.drop 5) (eE := ((12, n29 x1_4.1) :: E2)) (hs := [(mkH [Q6, Q2, ⟨e29 x0_1.1, 7, false⟩])]) (H' := (mkH [Q6, Q2, ⟨e29 x0_1.1, 7, false⟩])) (fi := 109) (args := [.ptr 0 4 0]) (v := n29 x1_4.1) (by kernel_rfl) (frC (rs := [0]) (ms := []) (ms' := []) (hF.i49_ok a1 a2 x0_1.2 a4 x1_4 hx1_4) trivial trivial (by kernel_rfl)) (by kernel_rfl) (opsD_callM (l' := (opsAt i48p2).toList.drop 6) (eE := ((13, n29 x1_5.1) :: (12, n29 x1_4.1) :: E2)) (hs := [(mkH [Q5, Q2, ⟨e29 x0_1.1, 7, false⟩])]) (H' := (mkH [Q5, Q2, ⟨e29 x0_1.1, 7, false⟩])) (fi := 108) (args := [.ptr 0 4 0, .str a0, n29 x0_1.1, n29 x1_4.1]) (v := n29 x1_5.1) (by kernel_rfl) (frC (rs := [0]) (ms := []) (ms' := []) (hF.i47_ok a0 x0_1.1.f0 x0_1.1.f1 x0_1.1.f2 x0_1.1.f3 x0_1.1.f4 x0_1.1.f5 x0_1.1.f6 x1_4.1.f0 x1_4.1.f1 x1_4.1.f2 x1_4.1.f3 x1_4.1.f4 x1_4.1.f5 x1_4.1.f6 a1 a2 x1_4.2 a4 x1_5 hx1_5) trivial trivial (by kernel_rfl)) (by kernel_rfl) (oDh 1 7 ((13, n29 x1_5.1) :: (12, n29 x1_4.1) :: E2) (mkH K1) [(mkH K1)] .nil)))) ?_
   exact oQF 1 K1 1 [] [n29 x1_5.1] (n29 x1_5.1) .ps trivial
theorem i48B_ok (k : Nat) (F : Fns0) (hF : FnsOk0 F) : Pi48 (i48B k F) := fun a0 a1 a2 a3 a4 x h => i48B_all k F hF a0 a1 a2 a3 a4 (some x) h
theorem i48B_thr (k : Nat) (F : Fns0) (hF : FnsOk0 F) : Qi48 (i48B k F) := fun a0 a1 a2 a3 a4 h => ⟨_, i48B_all k F hF a0 a1 a2 a3 a4 none h⟩
end
end Go.Proofs.Ythpplbkobokghaa.Am
set_option maxRecDepth 100000
set_option linter.unusedVariables false
namespace Go.Proofs.Ythpplbkobokghaa.Am
noncomputable section
open Go
def Xi49 (a0 : (List Nat)) (a1 : (List S33)) (a2 : Int) (a3 : Int) : Fx (Option (S28 × Int)) := ⟨Try.prog, cx, Try.f109, fun r => match r with | some r => .agg [.i r.1.f0, .str r.1.f1, q29 r.1.f2, .bool r.1.f3, .bool r.1.f4, w9 r.1.f5, w9 r.1.f6] | none => .top, 1, fun r => match r with | some r => (mkH [⟨[.str a0, w34 a1, .i r.2, .i a3], 4, false⟩]) | none => (mkH [⟨[.str a0, w34 a1, .i a2, .i a3], 4, false⟩]), cxTi, cxOrd, fun r => match r with | some _ => none | none => some (thrown, [0]), false⟩
def i49p0 : Pt := nav [0] (bodyAt Try.f109)
def i49p1 : Pt := nav [0, 0, 0, 0] i49p0
def i49p2 : Pt := nav [0, 0] i49p1
def i49p3 : Pt := nav [1, 0] i49p2
def i49B (k : Nat) (F : Fns0) (a0 : (List Nat)) (a1 : (List S33)) (a2 : Int) (a3 : Int) : Option (Option (S28 × Int)) :=
 bT (i7 k ([119, 104, 101, 110] : List Nat) a0 a1 a2 a3) fun x0_1 => if x0_1.1 then (bT (F.i50 a0 a1 x0_1.2 a3) fun x1_1 => some (some ((⟨x1_1.1.f0, x1_1.1.f1, x1_1.1.f2, x1_1.1.f3, x1_1.1.f4, x1_1.1.f5, x1_1.1.f6⟩ : S28), x1_1.2))) else (some (some ((⟨(24 : Int), ([] : List Nat), ⟨0, []⟩, false, false, ([] : List (List Nat)), ([] : List (List Nat))⟩ : S28), x0_1.2)))
theorem i49B_all (k : Nat) (F : Fns0) (hF : FnsOk0 F) (a0 : (List Nat)) (a1 : (List S33)) (a2 : Int) (a3 : Int) (r : (Option (S28 × Int))) (h : i49B k F a0 a1 a2 a3 = some r) : CallT Try.prog 109 [.ptr 0 4 0] (mkH [⟨[.str a0, w34 a1, .i a2, .i a3], 4, false⟩]) ((Xi49 a0 a1 a2 a3).thr r) ((Xi49 a0 a1 a2 a3).enc r) ((Xi49 a0 a1 a2 a3).fin r) := by
 refine callM_of (Xi49 a0 a1 a2 a3) Try.func109 (by kernel_rfl) (by kernel_rfl) rfl (t := i49B k F a0 a1 a2 a3) ?_ h
 unfold i49B
 refine ok_env (eE := [(0, .ptr 0 4 0)]) (by kernel_rfl) ?_
 let Q1 : Blk := ⟨[.i 0, .str [], .nils, .bool false, .bool false, .nils, .nils], 0, false⟩
 refine oH 8 (atN 1 (ctl1 i49p1)) [(3, .ptr 0 4 0), (2, .ptr 1 7 0), (0, .ptr 0 4 0)] (mkH [⟨[.str a0, w34 a1, .i a2, .i a3], 4, false⟩, Q1]) ?_
 refine oX (fun (x0_1 : (Bool × Int)) => .bool x0_1.1) (fun x0_1 => [⟨[.str a0, w34 a1, .i x0_1.2, .i a3], 4, false⟩, Q1]) (atN 2 (ctl1 i49p1)) 4 [0] [] [] [] [] [.ptr 0 4 0, .str [119, 104, 101, 110]] (i7_thr k ([119, 104, 101, 110] : List Nat) a0 a1 a2 a3) (i7_ok k ([119, 104, 101, 110] : List Nat) a0 a1 a2 a3) trivial (fun _ => trivial) trivial fun x0_1 hx0_1 => ?_
 refine oR 1 i49p2 [(4, .bool x0_1.1), (3, .ptr 0 4 0), (2, .ptr 1 7 0), (0, .ptr 0 4 0)] ?_
 refine oS 4 (fun hb => ?_) (fun hb => ?_)
 ·refine oR 4 (atN 1 (ctl1 i49p3)) [(5, .ptr 0 4 0), (4, .bool true), (4, .bool x0_1.1), (3, .ptr 0 4 0), (2, .ptr 1 7 0), (0, .ptr 0 4 0)] ?_
  refine oX (fun (x1_1 : (S28 × Int)) => n29 x1_1.1) (fun x1_1 => [⟨[.str a0, w34 a1, .i x1_1.2, .i a3], 4, false⟩, Q1]) (atN 2 (ctl1 i49p3)) 6 [0] [] [] [0] [] [.ptr 0 4 0] (hF.i50_thr a0 a1 x0_1.2 a3) (hF.i50_ok a0 a1 x0_1.2 a3) trivial (fun _ => trivial) trivial fun x1_1 hx1_1 => ?_
  exact oQF 3 [⟨[.str a0, w34 a1, .i x1_1.2, .i a3], 4, false⟩, ⟨e29 x1_1.1, 7, false⟩] 1 [] [n29 x1_1.1] (n29 x1_1.1) .ps trivial
 ·exact oQF 8 [⟨[.str a0, w34 a1, .i x0_1.2, .i a3], 4, false⟩, ⟨[.i 24, .str [], .nils, .bool false, .bool false, .nils, .nils], 7, false⟩] 1 [] [.agg [.i 24, .str [], .nils, .bool false, .bool false, .nils, .nils]] (.agg [.i 24, .str [], .vec 0 7 [], .bool false, .bool false, .vec 0 1 [], .vec 0 1 []]) (.agg (.cs (.cs (.nil (.cs (.cs (.nil (.nil .ps))))))) .ps) trivial
theorem i49B_ok (k : Nat) (F : Fns0) (hF : FnsOk0 F) : Pi49 (i49B k F) := fun a0 a1 a2 a3 x h => i49B_all k F hF a0 a1 a2 a3 (some x) h
theorem i49B_thr (k : Nat) (F : Fns0) (hF : FnsOk0 F) : Qi49 (i49B k F) := fun a0 a1 a2 a3 h => ⟨_, i49B_all k F hF a0 a1 a2 a3 none h⟩
end
end Go.Proofs.Ythpplbkobokghaa.Am
set_option maxRecDepth 100000
set_option linter.unusedVariables false
namespace Go.Proofs.Ythpplbkobokghaa.Am
noncomputable section
open Go
def Xi5 (a0 : Int) (a1 : (List Nat)) (a2 : (List S33)) (a3 : Int) (a4 : Int) : Fx (Option (S28 × Int)) := ⟨Try.prog, cx, Try.f29, fun r => match r with | some r => .agg [.i r.1.f0, .str r.1.f1, q29 r.1.f2, .bool r.1.f3, .bool r.1.f4, w9 r.1.f5, w9 r.1.f6] | none => .top, 1, fun r => match r with | some r => (mkH [⟨[.str a1, w34 a2, .i r.2, .i a4], 4, false⟩]) | none => (mkH [⟨[.str a1, w34 a2, .i a3, .i a4], 4, false⟩]), cxTi, cxOrd, fun r => match r with | some _ => none | none => some (thrown, [0]), false⟩
def i5p0 : Pt := nav [0] (bodyAt Try.f29)
def i5p1 : Pt := nav [0, 0, 0, 0] i5p0
def i5p2 : Pt := nav [0, 0] i5p1
def i5p3 : Pt := nav [1, 0] i5p2
def i5p4 : Pt := nav [2, 0, 0] i5p2
def i5p6 : Pt := nav [0, 0, 0, 0, 0] i5p4
def i5p7 : Pt := nav [0, 0, 0] i5p6
def i5p8 : Pt := nav [0, 0] i5p7
def i5p9 : Pt := nav [1, 0, 0, 0] i5p8
def i5p10 : Pt := nav [2, 0, 0] i5p8
def i5p11 : Pt := nav [0, 0, 0] i5p9
def i5p12 : Pt := nav [0, 0, 0, 0] i5p11
def i5p13 : Pt := nav [0, 0] i5p12
def i5p14 : Pt := nav [2, 0, 0] i5p13
def i5p15 : Pt := nav [0, 0] i5p14
def i5_l9B (k : Nat) (F : Fns0)  (a0 : Int) (a1 : (List Nat)) (a2 : (List S33)) (a3 : Int) (a4 : Int) (ih : Int → Int → Int → (List Nat) → Raw → Bool → Bool → (List (List Nat)) → (List (List Nat)) → Option (Option (S28 × Int))) : Int → Int → Int → (List Nat) → Raw → Bool → Bool → (List (List Nat)) → (List (List Nat)) → Option (Option (S28 × Int)) :=
 fun (y9_0 : Int) (y9_1 : Int) (y9_2 : Int) (y9_3 : (List Nat)) (y9_4 : Raw) (y9_5 : Bool) (y9_6 : Bool) (y9_7 : (List (List Nat))) (y9_8 : (List (List Nat))) => jn (fun (z11 : Int × Int × (List Nat) × Raw × Bool × Bool × (List (List Nat)) × (List (List Nat))) => some (some ((⟨z11.2.1, z11.2.2.1, z11.2.2.2.1, z11.2.2.2.2.1, z11.2.2.2.2.2.1, z11.2.2.2.2.2.2.1, z11.2.2.2.2.2.2.2⟩ : S28), z11.1))) (fun j11 => if (decide (a0 ≤ 9)) then ((i9 k a1 a2 y9_1 a4).bind fun x3_1 => (g50 k x3_1.f1).bind fun x4_2 => (i10 k x3_1.f1 a1 a2 y9_1 a4).bind fun x5_3 => jn (fun (z10 : Bool × Int × Int × (List Nat) × Raw × Bool × Bool × (List (List Nat)) × (List (List Nat))) => if z10.1 then (j11 (z10.2.1, z10.2.2.1, z10.2.2.2.1, z10.2.2.2.2.1, z10.2.2.2.2.2.1, z10.2.2.2.2.2.2.1, z10.2.2.2.2.2.2.2.1, z10.2.2.2.2.2.2.2.2)) else (bT (i11 k a1 a2 z10.2.1 a4) fun x6_1 => (g54 k x3_1.f1).bind fun x7_6 => bT (F.i5 x7_6 a1 a2 x6_1 a4) fun x7_7 => ih x4_2 x7_7.2 14 x3_1.f1 (⟨(([(⟨z10.2.2.1, z10.2.2.2.1, z10.2.2.2.2.1, z10.2.2.2.2.2.1, z10.2.2.2.2.2.2.1, z10.2.2.2.2.2.2.2.1, z10.2.2.2.2.2.2.2.2⟩ : S28), x7_7.1] : List S28)).length, (([(⟨z10.2.2.1, z10.2.2.2.1, z10.2.2.2.2.1, z10.2.2.2.2.2.1, z10.2.2.2.2.2.2.1, z10.2.2.2.2.2.2.2.1, z10.2.2.2.2.2.2.2.2⟩ : S28), x7_7.1] : List S28)).flatMap e29⟩ : Raw) false false ([] : List (List Nat)) ([] : List (List Nat)))) (fun j10 => if (!x5_3) then (j10 (true, y9_1, y9_2, y9_3, y9_4, y9_5, y9_6, y9_7, y9_8)) else (if (decide (x4_2 < maxI a0 1)) then (j10 (true, y9_1, y9_2, y9_3, y9_4, y9_5, y9_6, y9_7, y9_8)) else ((g52 k x3_1.f1).bind fun x5_15 => j10 (decide (y9_0 < x5_15), y9_1, y9_2, y9_3, y9_4, y9_5, y9_6, y9_7, y9_8))))) else (j11 (y9_1, y9_2, y9_3, y9_4, y9_5, y9_6, y9_7, y9_8)))
def i5_l9 (k : Nat) (F : Fns0)  (a0 : Int) (a1 : (List Nat)) (a2 : (List S33)) (a3 : Int) (a4 : Int) (n : Nat) : Int → Int → Int → (List Nat) → Raw → Bool → Bool → (List (List Nat)) → (List (List Nat)) → Option (Option (S28 × Int)) := lp (fun _ _ _ _ _ _ _ _ _ => none) (i5_l9B k F a0 a1 a2 a3 a4) n
theorem i5_l9_ok (k : Nat) (F : Fns0) (hF : FnsOk0 F) (a0 : Int) (a1 : (List Nat)) (a2 : (List S33)) (a3 : Int) (a4 : Int)    : ∀ (n : Nat) (y9_0 : Int) (y9_1 : Int) (y9_2 : Int) (y9_3 : (List Nat)) (y9_4 : Raw) (y9_5 : Bool) (y9_6 : Bool) (y9_7 : (List (List Nat))) (y9_8 : (List (List Nat))), Ok (Xi5 a0 a1 a2 a3 a4) i5p6 [(0, .ptr 0 4 0), (1, .i a0), (4, .ptr 1 7 0), (5, .ptr 2 7 0), (6, .i y9_0)] (mkH [⟨[.str a1, w34 a2, .i y9_1, .i a4], 4, false⟩, ⟨[.i 0, .str [], .nils, .bool false, .bool false, .nils, .nils], 0, false⟩, ⟨[.i y9_2, .str y9_3, q29 y9_4, .bool y9_5, .bool y9_6, w9 y9_7, w9 y9_8], 7, false⟩]) (i5_l9 k F a0 a1 a2 a3 a4 n y9_0 y9_1 y9_2 y9_3 y9_4 y9_5 y9_6 y9_7 y9_8) := by
 intro n
 induction n with
 | zero => intro y9_0 y9_1 y9_2 y9_3 y9_4 y9_5 y9_6 y9_7 y9_8; exact ok_none
 | succ n ih =>
  intro y9_0 y9_1 y9_2 y9_3 y9_4 y9_5 y9_6 y9_7 y9_8
  show Ok _ _ _ _ (i5_l9B k F a0 a1 a2 a3 a4 (i5_l9 k F a0 a1 a2 a3 a4 n) y9_0 y9_1 y9_2 y9_3 y9_4 y9_5 y9_6 y9_7 y9_8)
  unfold i5_l9B
  refine ok_ent (p' := nav [0] i5p6) (by kernel_rfl) ?_
  let E6 : Env := [(25, .bool (decide (a0 ≤ 9))), (24, .i a0), (0, .ptr 0 4 0), (1, .i a0), (4, .ptr 1 7 0), (5, .ptr 2 7 0), (6, .i y9_0)]
  let Q1 : Blk := ⟨[.str a1, w34 a2, .i y9_1, .i a4], 4, false⟩
  let Q2 : Blk := ⟨[.i 0, .str [], .nils, .bool false, .bool false, .nils, .nils], 0, false⟩
  let Q3 : Blk := ⟨[.i y9_2, .str y9_3, q29 y9_4, .bool y9_5, .bool y9_6, w9 y9_7, w9 y9_8], 7, false⟩
  refine oH 6 i5p8 E6 (mkH [Q1, Q2, Q3]) ?_
  refine oJ i5p10 (fun (z11 : Int × Int × (List Nat) × Raw × Bool × Bool × (List (List Nat)) × (List (List Nat))) => [(4, .ptr 1 7 0), (5, .ptr 2 7 0)]) (fun (z11 : Int × Int × (List Nat) × Raw × Bool × Bool × (List (List Nat)) × (List (List Nat))) => (mkH [⟨[.str a1, w34 a2, .i z11.1, .i a4], 4, false⟩, Q2, ⟨[.i z11.2.1, .str z11.2.2.1, q29 z11.2.2.2.1, .bool z11.2.2.2.2.1, .bool z11.2.2.2.2.2.1, w9 z11.2.2.2.2.2.2.1, w9 z11.2.2.2.2.2.2.2], 7, false⟩])) (fun z11 => ?_) (fun j11 hj11 => ?_)
  ·let Q4 : Blk := ⟨[.i z11.2.1, .str z11.2.2.1, q29 z11.2.2.2.1, .bool z11.2.2.2.2.1, .bool z11.2.2.2.2.2.1, w9 z11.2.2.2.2.2.2.1, w9 z11.2.2.2.2.2.2.2], 7, false⟩
   exact oQF 5 [⟨[.str a1, w34 a2, .i z11.1, .i a4], 4, false⟩, Q4, Q4] 1 [] [.agg [.i z11.2.1, .str z11.2.2.1, q29 z11.2.2.2.1, .bool z11.2.2.2.2.1, .bool z11.2.2.2.2.2.1, w9 z11.2.2.2.2.2.2.1, w9 z11.2.2.2.2.2.2.2]] (.agg [.i z11.2.1, .str z11.2.2.1, q29 z11.2.2.2.1, .bool z11.2.2.2.2.1, .bool z11.2.2.2.2.2.1, w9 z11.2.2.2.2.2.2.1, w9 z11.2.2.2.2.2.2.2]) .ps trivial
  ·refine oS 25 (fun hb => ?_) (fun hb => ?_)
   ·refine oH 6 (atN 1 (ctl1 i5p9)) ((26, .ptr 0 4 0) :: (25, .bool true) :: E6) (mkH [Q1, Q2, Q3]) ?_
    refine oN (fun (x3_1 : S33) => n34 x3_1) (fun x3_1 => [Q1, Q2, Q3]) (atN 2 (ctl1 i5p9)) 27 [0] [] [] [.ptr 0 4 0] (i9_ok k a1 a2 y9_1 a4) trivial (fun _ => trivial) fun x3_1 hx3_1 => ?_
    let E7 : Env := ((29, .str x3_1.f1) :: (28, .ptr 3 3 1) :: (7, .ptr 3 3 0) :: (27, n34 x3_1) :: (26, .ptr 0 4 0) :: (25, .bool true) :: E6)
    refine oH 7 (atN 2 (ctl1 i5p11)) E7 (mkH [Q1, Q2, Q3, ⟨e34 x3_1, 3, false⟩]) ?_
    refine oA (fun (x4_2 : Int) => .i x4_2) (atN 3 (ctl1 i5p11)) 30 [.str x3_1.f1] (g50_ok k x3_1.f1) fun x4_2 hx4_2 => ?_
    refine oR 4 i5p12 ((8, .i x4_2) :: (30, .i x4_2) :: E7) ?_
    refine oK0 [0, 1, 4, 5, 6, 7, 8] ?_
    let E8 : Env := keepOnly ((8, .i x4_2) :: (30, .i x4_2) :: E7) [0, 1, 4, 5, 6, 7, 8]
    refine oR 4 (atN 3 (ctl1 i5p12)) ((33, .str x3_1.f1) :: (32, .ptr 3 3 1) :: (31, .ptr 0 4 0) :: E8) ?_
    refine oN (fun (x5_3 : Bool) => .bool x5_3) (fun x5_3 => [Q1, Q2, Q3, ⟨e34 x3_1, 3, false⟩]) (atN 4 (ctl1 i5p12)) 34 [0] [] [] [.ptr 0 4 0, .str x3_1.f1] (i10_ok k x3_1.f1 a1 a2 y9_1 a4) trivial (fun _ => trivial) fun x5_3 hx5_3 => ?_
    let E9 : Env := ((36, .bool (!x5_3)) :: (35, .bool (!x5_3)) :: (34, .bool x5_3) :: (33, .str x3_1.f1) :: (32, .ptr 3 3 1) :: (31, .ptr 0 4 0) :: E8)
    refine oR 2 (atN 6 (ctl1 i5p12)) E9 ?_
    refine oJ i5p13 (fun (z10 : Bool × Int × Int × (List Nat) × Raw × Bool × Bool × (List (List Nat)) × (List (List Nat))) => [(0, .ptr 0 4 0), (1, .i a0), (4, .ptr 1 7 0), (5, .ptr 2 7 0), (7, .ptr 3 3 0), (8, .i x4_2), (48, .bool z10.1)]) (fun (z10 : Bool × Int × Int × (List Nat) × Raw × Bool × Bool × (List (List Nat)) × (List (List Nat))) => (mkH [⟨[.str a1, w34 a2, .i z10.2.1, .i a4], 4, false⟩, Q2, ⟨[.i z10.2.2.1, .str z10.2.2.2.1, q29 z10.2.2.2.2.1, .bool z10.2.2.2.2.2.1, .bool z10.2.2.2.2.2.2.1, w9 z10.2.2.2.2.2.2.2.1, w9 z10.2.2.2.2.2.2.2.2], 7, false⟩, ⟨e34 x3_1, 3, false⟩])) (fun z10 => ?_) (fun j10 hj10 => ?_)
    ·refine oS 48 (fun hb => ?_) (fun hb => ?_)
     ·let Q5 : Blk := ⟨[.str a1, w34 a2, .i z10.2.1, .i a4], 4, false⟩
      let Q6 : Blk := ⟨[.i z10.2.2.1, .str z10.2.2.2.1, q29 z10.2.2.2.2.1, .bool z10.2.2.2.2.2.1, .bool z10.2.2.2.2.2.2.1, w9 z10.2.2.2.2.2.2.2.1, w9 z10.2.2.2.2.2.2.2.2], 7, false⟩
      refine oLH 3 i5p10 [(4, .ptr 1 7 0), (5, .ptr 2 7 0)] (mkH [Q5, Q2, Q6, ⟨e34 x3_1, 3, false⟩]) ?_
      refine ok_cut [Q5, Q2, Q6] [⟨e34 x3_1, 3, false⟩] (by kernel_rfl) rfl (by kernel_rfl) ⟨(by kernel_rfl), ⟨(by kernel_rfl), ⟨(by kernel_rfl), trivial⟩⟩⟩ ?_
      exact hj11 (z10.2.1, z10.2.2.1, z10.2.2.2.1, z10.2.2.2.2.1, z10.2.2.2.2.2.1, z10.2.2.2.2.2.2.1, z10.2.2.2.2.2.2.2.1, z10.2.2.2.2.2.2.2.2)
     ·let E12 : Env := [(49, .ptr 0 4 0), (48, .bool false), (0, .ptr 0 4 0), (1, .i a0), (4, .ptr 1 7 0), (5, .ptr 2 7 0), (7, .ptr 3 3 0), (8, .i x4_2), (48, .bool z10.1)]
      let Q7 : Blk := ⟨[.i z10.2.2.1, .str z10.2.2.2.1, q29 z10.2.2.2.2.1, .bool z10.2.2.2.2.2.1, .bool z10.2.2.2.2.2.2.1, w9 z10.2.2.2.2.2.2.2.1, w9 z10.2.2.2.2.2.2.2.2], 7, false⟩
      refine oH 5 (atN 1 (ctl1 i5p14)) E12 (mkH [⟨[.str a1, w34 a2, .i z10.2.1, .i a4], 4, false⟩, Q2, Q7, ⟨e34 x3_1, 3, false⟩]) ?_
      refine oX (fun (x6_1 : Int) => .tuple []) (fun x6_1 => [⟨[.str a1, w34 a2, .i x6_1, .i a4], 4, false⟩, Q2, Q7, ⟨e34 x3_1, 3, false⟩]) (atN 2 (ctl1 i5p14)) 50 [0] [] [] [] [] [.ptr 0 4 0] (i11_thr k a1 a2 z10.2.1 a4) (i11_ok k a1 a2 z10.2.1 a4) trivial (fun _ => trivial) trivial fun x6_1 hx6_1 => ?_
      refine oR 1 i5p15 ((50, .tuple []) :: E12) ?_
      refine ok_bind (fun x7_6 hx7_6 => ?_)
      refine ok_bT (fun h => ?_) (fun x7_7 hx7_7 => ?_)
      ·let E13 : Env := [(56, .str x3_1.f1), (55, .ptr 3 3 1), (54, .ptr 0 4 0), (53, .agg [.i z10.2.2.1, .str z10.2.2.2.1, q29 z10.2.2.2.2.1, .bool z10.2.2.2.2.2.1, .bool z10.2.2.2.2.2.2.1, w9 z10.2.2.2.2.2.2.2.1, w9 z10.2.2.2.2.2.2.2.2]), (52, .str x3_1.f1), (51, .ptr 3 3 1), (50, .tuple []), (49, .ptr 0 4 0), (48, .bool false), (0, .ptr 0 4 0), (1, .i a0), (4, .ptr 1 7 0), (5, .ptr 2 7 0), (7, .ptr 3 3 0), (8, .i x4_2), (48, .bool z10.1)]
       let E14 : Env := ((61, .i x4_2) :: (60, .top) :: (59, .top) :: (58, .top) :: (57, .i x7_6) :: E13)
       let Q8 : Blk := ⟨[.str a1, w34 a2, .i x6_1, .i a4], 4, false⟩
       exact ok_drawT (eE := ((6, .top) :: E14)) ⟨[59], [(0, 0, 0), (1, 0, 2), (0, 0, 2), (0, 0, 0), (0, 0, 0), (16, 0, 0), (48, 0, 0), (120, 0, 0), (252, 0, 0), (511, 0, 0), (0, 0, 0), (1023, 0, 0), (4095, 0, 0)], 7, thrown, [0], (mkH [Q8, Q2, Q7, ⟨e34 x3_1, 3, false⟩])⟩ (hs := [(mkH [Q8, Q2, Q7, ⟨e34 x3_1, 3, false⟩]), (mkH [Q8, Q2, Q7, ⟨e34 x3_1, 3, false⟩]), (mkH [Q8, Q2, Q7, ⟨e34 x3_1, 3, false⟩])]) (LX := [⟨[.str a1, w34 a2, .i a3, .i a4], 4, false⟩]) (L := [Q8, Q2, Q7, ⟨e34 x3_1, 3, false⟩]) rfl rfl rfl (by kernel_rfl) rfl ⟨.inl rfl, trivial⟩ (by kernel_rfl) (by kernel_rfl) (by kernel_rfl) (by kernel_rfl) (opsD_run 6 (l' := (opsAt i5p15).toList.drop 6) (eE := E13) (H' := (mkH [Q8, Q2, Q7, ⟨e34 x3_1, 3, false⟩])) (hs := []) (by kernel_rfl) (opsD_call (l' := (opsAt i5p15).toList.drop 7) (eE := ((57, .i x7_6) :: E13)) (hs := [(mkH [Q8, Q2, Q7, ⟨e34 x3_1, 3, false⟩])]) (fi := 54) (args := [.str x3_1.f1]) (v := .i x7_6) (by kernel_rfl) (by kernel_rfl) (by kernel_rfl) (g54_ok k x3_1.f1 x7_6 hx7_6) (by kernel_rfl) (opsD_thr (l' := (opsAt i5p15).toList.drop 8) (eE := ((58, .top) :: (57, .i x7_6) :: E13)) (hs := [(mkH [Q8, Q2, Q7, ⟨e34 x3_1, 3, false⟩])]) (fi := 29) (args := [.ptr 0 4 0, .i x7_6]) (by kernel_rfl) (by kernel_rfl) (frS 0 (M := [Q8, Q2, Q7, ⟨e34 x3_1, 3, false⟩]) (rs := [0]) (ms := []) (mv := []) (mm := []) (D := [0]) (xs' := [.ptr 0 4 0, .i x7_6]) (.refl) (hF.i5_thr x7_6 a1 a2 x6_1 a4 h) trivial trivial (by kernel_rfl)) (by kernel_rfl) (opsD_dead (l' := (opsAt i5p15).toList.drop 9) (eE := ((59, .top) :: (58, .top) :: (57, .i x7_6) :: E13)) (hs := []) (by kernel_rfl) (by kernel_rfl) (opsD_dead (l' := (opsAt i5p15).toList.drop 10) (eE := ((60, .top) :: (59, .top) :: (58, .top) :: (57, .i x7_6) :: E13)) (hs := []) (by kernel_rfl) (by kernel_rfl) (opsD_run 1 (l' := (opsAt i5p15).toList.drop 11) (eE := E14) (H' := (mkH [Q8, Q2, Q7, ⟨e34 x3_1, 3, false⟩])) (hs := []) (by kernel_rfl) (opsD_dead (l' := (opsAt i5p15).toList.drop 12) (eE := E14) (hs := [(mkH [Q8, Q2, Q7, ⟨e34 x3_1, 3, false⟩])]) (by kernel_rfl) (by kernel_rfl) (opsD_dead (l' := (opsAt i5p15).toList.drop 13) (eE := ((6, .top) :: E14)) (hs := []) (by kernel_rfl) (by kernel_rfl) (.nil))))))))) (by kernel_rfl) (by kernel_rfl)
      ·let E13 : Env := [(56, .str x3_1.f1), (55, .ptr 3 3 1), (54, .ptr 0 4 0), (53, .agg [.i z10.2.2.1, .str z10.2.2.2.1, q29 z10.2.2.2.2.1, .bool z10.2.2.2.2.2.1, .bool z10.2.2.2.2.2.2.1, w9 z10.2.2.2.2.2.2.2.1, w9 z10.2.2.2.2.2.2.2.2]), (52, .str x3_1.f1), (51, .ptr 3 3 1), (50, .tuple []), (49, .ptr 0 4 0), (48, .bool false), (0, .ptr 0 4 0), (1, .i a0), (4, .ptr 1 7 0), (5, .ptr 2 7 0), (7, .ptr 3 3 0), (8, .i x4_2), (48, .bool z10.1)]
       let E15 : Env := ((6, .i x4_2) :: (61, .i x4_2) :: (60, .agg [.i 14, .str x3_1.f1, w29 ([(⟨z10.2.2.1, z10.2.2.2.1, z10.2.2.2.2.1, z10.2.2.2.2.2.1, z10.2.2.2.2.2.2.1, z10.2.2.2.2.2.2.2.1, z10.2.2.2.2.2.2.2.2⟩ : S28), x7_7.1] : List S28), .bool false, .bool false, .nils, .nils]) :: (59, w29 ([(⟨z10.2.2.1, z10.2.2.2.1, z10.2.2.2.2.1, z10.2.2.2.2.2.1, z10.2.2.2.2.2.2.1, z10.2.2.2.2.2.2.2.1, z10.2.2.2.2.2.2.2.2⟩ : S28), x7_7.1] : List S28)) :: (58, n29 x7_7.1) :: (57, .i x7_6) :: E13)
       let Q9 : Blk := ⟨[.str a1, w34 a2, .i x7_7.2, .i a4], 4, false⟩
       let Q10 : Blk := ⟨[.i 14, .str x3_1.f1, w29 ([(⟨z10.2.2.1, z10.2.2.2.1, z10.2.2.2.2.1, z10.2.2.2.2.2.1, z10.2.2.2.2.2.2.1, z10.2.2.2.2.2.2.2.1, z10.2.2.2.2.2.2.2.2⟩ : S28), x7_7.1] : List S28), .bool false, .bool false, .nils, .nils], 7, false⟩
       let Q11 : Blk := ⟨[.str a1, w34 a2, .i x6_1, .i a4], 4, false⟩
       refine oD (H' := (mkH [Q9, Q2, Q10, ⟨e34 x3_1, 3, false⟩])) (nav [0] i5p15) E15 [(mkH [Q11, Q2, Q7, ⟨e34 x3_1, 3, false⟩]), (mkH [Q9, Q2, Q7, ⟨e34 x3_1, 3, false⟩]), (mkH [Q9, Q2, Q10, ⟨e34 x3_1, 3, false⟩])] ⟨[59], [(0, 0, 0), (1, 0, 2), (0, 0, 2), (0, 0, 0), (0, 0, 0), (16, 0, 0), (48, 0, 0), (120, 0, 0), (252, 0, 0), (511, 0, 0), (0, 0, 0), (1023, 0, 0), (4095, 0, 0)], 13, thrown, [], H0⟩ (oDr 6 6 E13 (opsD_call (l' := (opsAt i5p15).toList.drop 7) (eE := ((57, .i x7_6) :: E13)) (hs := [(mkH [Q11, Q2, Q7, ⟨e34 x3_1, 3, false⟩])]) (fi := 54) (args := [.str x3_1.f1]) (v := .i x7_6) (by kernel_rfl) (by kernel_rfl) (by kernel_rfl) (g54_ok k x3_1.f1 x7_6 hx7_6) (by kernel_rfl) (opsD_callM (l' := (opsAt i5p15).toList.drop 8) (eE := ((58, n29 x7_7.1) :: (57, .i x7_6) :: E13)) (hs := [(mkH [Q9, Q2, Q7, ⟨e34 x3_1, 3, false⟩])]) (H' := (mkH [Q9, Q2, Q7, ⟨e34 x3_1, 3, false⟩])) (fi := 29) (args := [.ptr 0 4 0, .i x7_6]) (v := n29 x7_7.1) (by kernel_rfl) (frC (rs := [0]) (ms := []) (ms' := []) (hF.i5_ok x7_6 a1 a2 x6_1 a4 x7_7 hx7_7) trivial trivial (by kernel_rfl)) (by kernel_rfl) (oDh 5 13 E15 (mkH [Q9, Q2, Q10, ⟨e34 x3_1, 3, false⟩]) [(mkH [Q9, Q2, Q10, ⟨e34 x3_1, 3, false⟩])] .nil)))) ?_
       refine ok_wkH [Q9, Q2, Q10, ⟨e34 x3_1, 3, false⟩] 2 7 [.i 14, .str x3_1.f1, w29 ([(⟨z10.2.2.1, z10.2.2.2.1, z10.2.2.2.2.1, z10.2.2.2.2.2.1, z10.2.2.2.2.2.2.1, z10.2.2.2.2.2.2.2.1, z10.2.2.2.2.2.2.2.2⟩ : S28), x7_7.1] : List S28), .bool false, .bool false, .nils, .nils] [.i 14, .str x3_1.f1, w29 ([(⟨z10.2.2.1, z10.2.2.2.1, z10.2.2.2.2.1, z10.2.2.2.2.2.1, z10.2.2.2.2.2.2.1, z10.2.2.2.2.2.2.2.1, z10.2.2.2.2.2.2.2.2⟩ : S28), x7_7.1] : List S28), .bool false, .bool false, w9 ([] : List (List Nat)), w9 ([] : List (List Nat))] (by kernel_rfl) rfl (.cons (.cons (.cons (.cons (.cons (.nil (.nil (.refl)))))))) ?_
       let Q12 : Blk := ⟨[.i 14, .str x3_1.f1, w29 ([(⟨z10.2.2.1, z10.2.2.2.1, z10.2.2.2.2.1, z10.2.2.2.2.2.1, z10.2.2.2.2.2.2.1, z10.2.2.2.2.2.2.2.1, z10.2.2.2.2.2.2.2.2⟩ : S28), x7_7.1] : List S28), .bool false, .bool false, w9 ([] : List (List Nat)), w9 ([] : List (List Nat))], 7, false⟩
       refine oHp (mkH [Q9, Q2, Q12, ⟨e34 x3_1, 3, false⟩]) ?_
       refine oK [0, 1, 4, 5, 6] [(0, .ptr 0 4 0), (1, .i a0), (4, .ptr 1 7 0), (5, .ptr 2 7 0), (6, .i x4_2)] ?_
       refine ok_cut [Q9, Q2, Q12] [⟨e34 x3_1, 3, false⟩] (by kernel_rfl) rfl (by kernel_rfl) ⟨(by kernel_rfl), ⟨(by kernel_rfl), ⟨(by kernel_rfl), trivial⟩⟩⟩ ?_
       exact ih x4_2 x7_7.2 14 x3_1.f1 (⟨(([(⟨z10.2.2.1, z10.2.2.2.1, z10.2.2.2.2.1, z10.2.2.2.2.2.1, z10.2.2.2.2.2.2.1, z10.2.2.2.2.2.2.2.1, z10.2.2.2.2.2.2.2.2⟩ : S28), x7_7.1] : List S28)).length, (([(⟨z10.2.2.1, z10.2.2.2.1, z10.2.2.2.2.1, z10.2.2.2.2.2.1, z10.2.2.2.2.2.2.1, z10.2.2.2.2.2.2.2.1, z10.2.2.2.2.2.2.2.2⟩ : S28), x7_7.1] : List S28)).flatMap e29⟩ : Raw) false false ([] : List (List Nat)) ([] : List (List Nat))
    ·refine oS 36 (fun hb => ?_) (fun hb => ?_)
     ·refine oLH 13 i5p13 [(0, .ptr 0 4 0), (1, .i a0), (4, .ptr 1 7 0), (5, .ptr 2 7 0), (7, .ptr 3 3 0), (8, .i x4_2), (48, .bool true)] (mkH [Q1, Q2, Q3, ⟨e34 x3_1, 3, false⟩]) ?_
      exact hj10 (true, y9_1, y9_2, y9_3, y9_4, y9_5, y9_6, y9_7, y9_8)
     ·let E19 : Env := ((42, .bool (decide (x4_2 < maxI a0 1))) :: (41, .bool (decide (x4_2 < maxI a0 1))) :: (40, .bool (decide (x4_2 < maxI a0 1))) :: (39, .i (maxI a0 1)) :: (38, .i a0) :: (37, .i x4_2) :: (36, .bool false) :: E9)
      refine oH 6 (atN 12 (ctl1 i5p12)) E19 (mkH [Q1, Q2, Q3, ⟨e34 x3_1, 3, false⟩]) ?_
      refine oS 42 (fun hb => ?_) (fun hb => ?_)
      ·refine oL 7 i5p13 [(0, .ptr 0 4 0), (1, .i a0), (4, .ptr 1 7 0), (5, .ptr 2 7 0), (7, .ptr 3 3 0), (8, .i x4_2), (48, .bool true)] ?_
       exact hj10 (true, y9_1, y9_2, y9_3, y9_4, y9_5, y9_6, y9_7, y9_8)
      ·refine oR 3 (atN 15 (ctl1 i5p12)) ((45, .str x3_1.f1) :: (44, .ptr 3 3 1) :: (43, .i y9_0) :: (42, .bool false) :: E19) ?_
       refine oA (fun (x5_15 : Int) => .i x5_15) (atN 16 (ctl1 i5p12)) 46 [.str x3_1.f1] (g52_ok k x3_1.f1) fun x5_15 hx5_15 => ?_
       refine oL 3 i5p13 [(0, .ptr 0 4 0), (1, .i a0), (4, .ptr 1 7 0), (5, .ptr 2 7 0), (7, .ptr 3 3 0), (8, .i x4_2), (48, .bool (decide (y9_0 < x5_15)))] ?_
       exact hj10 (decide (y9_0 < x5_15), y9_1, y9_2, y9_3, y9_4, y9_5, y9_6, y9_7, y9_8)
   ·refine oLH 3 i5p10 [(4, .ptr 1 7 0), (5, .ptr 2 7 0)] (mkH [Q1, Q2, Q3]) ?_
    exact hj11 (y9_1, y9_2, y9_3, y9_4, y9_5, y9_6, y9_7, y9_8)
def i5B (k : Nat) (F : Fns0) (a0 : Int) (a1 : (List Nat)) (a2 : (List S33)) (a3 : Int) (a4 : Int) : Option (Option (S28 × Int)) :=
 jn (fun (z8 : Bool × Int) => if z8.1 then (bT (F.i5 (0 : Int) a1 a2 z8.2 a4) fun x1_1 => some (some ((⟨(13 : Int), ([99, 97, 116, 99, 104] : List Nat), ⟨(([(⟨x1_1.1.f0, x1_1.1.f1, x1_1.1.f2, x1_1.1.f3, x1_1.1.f4, x1_1.1.f5, x1_1.1.f6⟩ : S28)] : List S28)).length, (([(⟨x1_1.1.f0, x1_1.1.f1, x1_1.1.f2, x1_1.1.f3, x1_1.1.f4, x1_1.1.f5, x1_1.1.f6⟩ : S28)] : List S28)).flatMap e29⟩, false, false, ([] : List (List Nat)), ([] : List (List Nat))⟩ : S28), x1_1.2))) else (bT (F.i8 a1 a2 z8.2 a4) fun x2_1 => i5_l9 k F a0 a1 a2 a3 a4 k x2_1.2.1 x2_1.2.2 x2_1.1.f0 x2_1.1.f1 x2_1.1.f2 x2_1.1.f3 x2_1.1.f4 x2_1.1.f5 x2_1.1.f6)) (fun j8 => if (decide (a0 ≤ 0)) then (bT (i7 k ([99, 97, 116, 99, 104] : List Nat) a1 a2 a3 a4) fun x0_4 => j8 (x0_4.1, x0_4.2)) else (j8 (false, a3)))
theorem i5B_all (k : Nat) (F : Fns0) (hF : FnsOk0 F) (a0 : Int) (a1 : (List Nat)) (a2 : (List S33)) (a3 : Int) (a4 : Int) (r : (Option (S28 × Int))) (h : i5B k F a0 a1 a2 a3 a4 = some r) : CallT Try.prog 29 [.ptr 0 4 0, .i a0] (mkH [⟨[.str a1, w34 a2, .i a3, .i a4], 4, false⟩]) ((Xi5 a0 a1 a2 a3 a4).thr r) ((Xi5 a0 a1 a2 a3 a4).enc r) ((Xi5 a0 a1 a2 a3 a4).fin r) := by
 refine callM_of (Xi5 a0 a1 a2 a3 a4) Try.func29 (by kernel_rfl) (by kernel_rfl) rfl (t := i5B k F a0 a1 a2 a3 a4) ?_ h
 unfold i5B
 refine ok_env (eE := [(0, .ptr 0 4 0), (1, .i a0)]) (by kernel_rfl) ?_
 let E1 : Env := [(11, .bool (decide (a0 ≤ 0))), (10, .bool (decide (a0 ≤ 0))), (9, .i a0), (4, .ptr 1 7 0), (0, .ptr 0 4 0), (1, .i a0)]
 let Q1 : Blk := ⟨[.str a1, w34 a2, .i a3, .i a4], 4, false⟩
 let Q2 : Blk := ⟨[.i 0, .str [], .nils, .bool false, .bool false, .nils, .nils], 0, false⟩
 refine oH 10 (atN 3 (ctl1 i5p1)) E1 (mkH [Q1, Q2]) ?_
 refine oJ i5p2 (fun (z8 : Bool × Int) => [(0, .ptr 0 4 0), (1, .i a0), (4, .ptr 1 7 0), (14, .bool z8.1)]) (fun (z8 : Bool × Int) => (mkH [⟨[.str a1, w34 a2, .i z8.2, .i a4], 4, false⟩, Q2])) (fun z8 => ?_) (fun j8 hj8 => ?_)
 ·refine oS 14 (fun hb => ?_) (fun hb => ?_)
  ·let E2 : Env := [(15, .ptr 0 4 0), (14, .bool true), (0, .ptr 0 4 0), (1, .i a0), (4, .ptr 1 7 0), (14, .bool z8.1)]
   refine oH 4 (atN 1 (ctl1 i5p3)) E2 (mkH [⟨[.str a1, w34 a2, .i z8.2, .i a4], 4, false⟩, Q2]) ?_
   refine oX (fun (x1_1 : (S28 × Int)) => n29 x1_1.1) (fun x1_1 => [⟨[.str a1, w34 a2, .i x1_1.2, .i a4], 4, false⟩, Q2]) (atN 2 (ctl1 i5p3)) 16 [0] [] [] [0] [] [.ptr 0 4 0, .i 0] (hF.i5_thr (0 : Int) a1 a2 z8.2 a4) (hF.i5_ok (0 : Int) a1 a2 z8.2 a4) trivial (fun _ => trivial) trivial fun x1_1 hx1_1 => ?_
   let Q3 : Blk := ⟨[.str a1, w34 a2, .i x1_1.2, .i a4], 4, false⟩
   refine oH 1 (atN 3 (ctl1 i5p3)) ((17, .slice 2 7 0 1 7) :: (16, n29 x1_1.1) :: E2) (mkH [Q3, Q2, ⟨e29 x1_1.1, 0, false⟩]) ?_
   refine oZ 17 2 1 7 [.i x1_1.1.f0, .str x1_1.1.f1, q29 x1_1.1.f2, .bool x1_1.1.f3, .bool x1_1.1.f4, w9 x1_1.1.f5, w9 x1_1.1.f6] [0, 1, 4, 14, 15, 16] [] trivial ?_
   exact oQF 4 [Q3, ⟨[.i 13, .str [99, 97, 116, 99, 104], w29 ([x1_1.1] : List S28), .bool false, .bool false, .nils, .nils], 7, false⟩, ⟨[], 0, false⟩] 1 [] [.agg [.i 13, .str [99, 97, 116, 99, 104], w29 ([x1_1.1] : List S28), .bool false, .bool false, .nils, .nils]] (.agg [.i 13, .str [99, 97, 116, 99, 104], w29 ([x1_1.1] : List S28), .bool false, .bool false, .vec 0 1 [], .vec 0 1 []]) (.agg (.cs (.cs (.cs (.cs (.cs (.nil (.nil .ps))))))) .ps) trivial
  ·refine oH 5 (atN 1 (ctl1 i5p4)) [(20, .ptr 0 4 0), (14, .bool false), (0, .ptr 0 4 0), (1, .i a0), (4, .ptr 1 7 0), (14, .bool z8.1)] (mkH [⟨[.str a1, w34 a2, .i z8.2, .i a4], 4, false⟩, Q2]) ?_
   refine oX (fun (x2_1 : Ri8) => .tuple [n29 x2_1.1, .i x2_1.2.1]) (fun x2_1 => [⟨[.str a1, w34 a2, .i x2_1.2.2, .i a4], 4, false⟩, Q2]) (atN 2 (ctl1 i5p4)) 21 [0] [] [] [0] [] [.ptr 0 4 0] (hF.i8_thr a1 a2 z8.2 a4) (hF.i8_ok a1 a2 z8.2 a4) trivial (fun _ => trivial) trivial fun x2_1 hx2_1 => ?_
   refine oLH 10 i5p6 [(0, .ptr 0 4 0), (1, .i a0), (4, .ptr 1 7 0), (5, .ptr 2 7 0), (6, .i x2_1.2.1)] (mkH [⟨[.str a1, w34 a2, .i x2_1.2.2, .i a4], 4, false⟩, Q2, ⟨e29 x2_1.1, 7, false⟩]) ?_
   exact (i5_l9_ok k F hF a0 a1 a2 a3 a4 k) x2_1.2.1 x2_1.2.2 x2_1.1.f0 x2_1.1.f1 x2_1.1.f2 x2_1.1.f3 x2_1.1.f4 x2_1.1.f5 x2_1.1.f6
 ·refine oS 11 (fun hb => ?_) (fun hb => ?_)
  ·refine oH 1 (atN 4 (ctl1 i5p1)) ((12, .ptr 0 4 0) :: (11, .bool true) :: E1) (mkH [Q1, Q2]) ?_
   refine oX (fun (x0_4 : (Bool × Int)) => .bool x0_4.1) (fun x0_4 => [⟨[.str a1, w34 a2, .i x0_4.2, .i a4], 4, false⟩, Q2]) (atN 5 (ctl1 i5p1)) 13 [0] [] [] [] [] [.ptr 0 4 0, .str [99, 97, 116, 99, 104]] (i7_thr k ([99, 97, 116, 99, 104] : List Nat) a1 a2 a3 a4) (i7_ok k ([99, 97, 116, 99, 104] : List Nat) a1 a2 a3 a4) trivial (fun _ => trivial) trivial fun x0_4 hx0_4 => ?_
   refine oL 2 i5p2 [(0, .ptr 0 4 0), (1, .i a0), (4, .ptr 1 7 0), (14, .bool x0_4.1)] ?_
   exact hj8 (x0_4.1, x0_4.2)
  ·refine oLH 4 i5p2 [(0, .ptr 0 4 0), (1, .i a0), (4, .ptr 1 7 0), (14, .bool false)] (mkH [Q1, Q2]) ?_
   exact hj8 (false, a3)
theorem i5B_ok (k : Nat) (F : Fns0) (hF : FnsOk0 F) : Pi5 (i5B k F) := fun a0 a1 a2 a3 a4 x h => i5B_all k F hF a0 a1 a2 a3 a4 (some x) h
theorem i5B_thr (k : Nat) (F : Fns0) (hF : FnsOk0 F) : Qi5 (i5B k F) := fun a0 a1 a2 a3 a4 h => ⟨_, i5B_all k F hF a0 a1 a2 a3 a4 none h⟩
end
end Go.Proofs.Ythpplbkobokghaa.Am
set_option maxRecDepth 100000
set_option linter.unusedVariables false
namespace Go.Proofs.Ythpplbkobokghaa.Am
noncomputable section
open Go
def Xi50 (a0 : (List Nat)) (a1 : (List S33)) (a2 : Int) (a3 : Int) : Fx (Option (S28 × Int)) := ⟨Try.prog, cx, Try.f110, fun r => match r with | some r => .agg [.i r.1.f0, .str r.1.f1, q29 r.1.f2, .bool r.1.f3, .bool r.1.f4, w9 r.1.f5, w9 r.1.f6] | none => .top, 1, fun r => match r with | some r => (mkH [⟨[.str a0, w34 a1, .i r.2, .i a3], 4, false⟩]) | none => (mkH [⟨[.str a0, w34 a1, .i a2, .i a3], 4, false⟩]), cxTi, cxOrd, fun r => match r with | some _ => none | none => some (thrown, [0]), false⟩
def i50p0 : Pt := nav [0] (bodyAt Try.f110)
def i50p1 : Pt := nav [0, 0, 0] i50p0
def i50p2 : Pt := nav [0, 0, 0, 0, 0] i50p1
def i50p3 : Pt := nav [0, 0, 0] i50p2
def i50p4 : Pt := nav [0, 0] i50p3
def i50p5 : Pt := nav [1, 0, 0] i50p4
def i50_l3B (k : Nat) (F : Fns0)  (a0 : (List Nat)) (a1 : (List S33)) (a2 : Int) (a3 : Int) (ih : Int → (List S28) → Option (Option (S28 × Int))) : Int → (List S28) → Option (Option (S28 × Int)) :=
 fun (y3_0 : Int) (y3_1 : (List S28)) => bT (i7 k ([59] : List Nat) a0 a1 y3_0 a3) fun x1_1 => if x1_1.1 then (bT (F.i52 a0 a1 x1_1.2 a3) fun x2_3 => (appS 104 y3_1 ([x2_3.1] : List S28)).bind fun x2_5 => ih x2_3.2 x2_5) else (some (some ((⟨(24 : Int), ([] : List Nat), ⟨(y3_1).length, (y3_1).flatMap e29⟩, false, false, ([] : List (List Nat)), ([] : List (List Nat))⟩ : S28), x1_1.2)))
def i50_l3 (k : Nat) (F : Fns0)  (a0 : (List Nat)) (a1 : (List S33)) (a2 : Int) (a3 : Int) (n : Nat) : Int → (List S28) → Option (Option (S28 × Int)) := lp (fun _ _ => none) (i50_l3B k F a0 a1 a2 a3) n
theorem i50_l3_ok (k : Nat) (F : Fns0) (hF : FnsOk0 F) (a0 : (List Nat)) (a1 : (List S33)) (a2 : Int) (a3 : Int)    : ∀ (n : Nat) (y3_0 : Int) (y3_1 : (List S28)), Ok (Xi50 a0 a1 a2 a3) i50p2 [(0, .ptr 0 4 0), (2, .ptr 1 7 0), (3, .ptr 3 7 0)] (mkH [⟨[.str a0, w34 a1, .i y3_0, .i a3], 4, false⟩, ⟨[.i 0, .str [], .nils, .bool false, .bool false, .nils, .nils], 0, false⟩, ⟨(y3_1).flatMap e29, 0, false⟩, ⟨[.i 24, .str [], .own 2 (y3_1).length 7, .bool false, .bool false, .nils, .nils], 7, false⟩]) (i50_l3 k F a0 a1 a2 a3 n y3_0 y3_1) := by
 intro n
 induction n with
 | zero => intro y3_0 y3_1; exact ok_none
 | succ n ih =>
  intro y3_0 y3_1
  show Ok _ _ _ _ (i50_l3B k F a0 a1 a2 a3 (i50_l3 k F a0 a1 a2 a3 n) y3_0 y3_1)
  unfold i50_l3B
  refine ok_ent (p' := nav [0] i50p2) (by kernel_rfl) ?_
  let Q1 : Blk := ⟨[.i 0, .str [], .nils, .bool false, .bool false, .nils, .nils], 0, false⟩
  let Q2 : Blk := ⟨(y3_1).flatMap e29, 0, false⟩
  let Q3 : Blk := ⟨[.i 24, .str [], .own 2 (y3_1).length 7, .bool false, .bool false, .nils, .nils], 7, false⟩
  refine oH 4 (atN 1 (ctl1 i50p3)) [(8, .ptr 0 4 0), (0, .ptr 0 4 0), (2, .ptr 1 7 0), (3, .ptr 3 7 0)] (mkH [⟨[.str a0, w34 a1, .i y3_0, .i a3], 4, false⟩, Q1, Q2, Q3]) ?_
  refine oX (fun (x1_1 : (Bool × Int)) => .bool x1_1.1) (fun x1_1 => [⟨[.str a0, w34 a1, .i x1_1.2, .i a3], 4, false⟩, Q1, Q2, Q3]) (atN 2 (ctl1 i50p3)) 9 [0] [] [] [3] [0, 0, 1] [.ptr 0 4 0, .str [59]] (i7_thr k ([59] : List Nat) a0 a1 y3_0 a3) (i7_ok k ([59] : List Nat) a0 a1 y3_0 a3) trivial (fun _ => trivial) ⟨u29 _, trivial⟩ fun x1_1 hx1_1 => ?_
  let E2 : Env := [(9, .bool x1_1.1), (8, .ptr 0 4 0), (0, .ptr 0 4 0), (2, .ptr 1 7 0), (3, .ptr 3 7 0)]
  refine oR 1 i50p4 E2 ?_
  refine oS 9 (fun hb => ?_) (fun hb => ?_)
  ·refine oR 3 i50p5 ((9, .bool true) :: E2) ?_
   refine ok_bT (fun h => ?_) (fun x2_3 hx2_3 => ?_)
   ·let E3 : Env := [(12, .ptr 0 4 0), (11, .own 2 (y3_1).length 7), (10, .ptr 3 7 2), (9, .bool true), (9, .bool x1_1.1), (8, .ptr 0 4 0), (0, .ptr 0 4 0), (2, .ptr 1 7 0), (3, .ptr 3 7 0)]
    let Q4 : Blk := ⟨[.str a0, w34 a1, .i x1_1.2, .i a3], 4, false⟩
    exact ok_drawT (eE := ((16, .top) :: (15, .top) :: (14, .top) :: (13, .top) :: E3)) ⟨[14], [(0, 0, 0), (1, 0, 1), (0, 0, 0), (4, 0, 0), (12, 0, 0), (31, 0, 0), (63, 0, 0), (127, 0, 0)], 3, thrown, [0, 3], (mkH [Q4, Q1, Q2, Q3])⟩ (hs := [(mkH [Q4, Q1, Q2, Q3]), (mkH [Q4, Q1, Q2, Q3]), (mkH [Q4, Q1, Q2, Q3])]) (LX := [⟨[.str a0, w34 a1, .i a2, .i a3], 4, false⟩]) (L := [Q4, Q1, Q2, Q3]) rfl rfl rfl (by kernel_rfl) rfl ⟨.inl rfl, trivial⟩ (by kernel_rfl) (by kernel_rfl) (by kernel_rfl) (by kernel_rfl) (opsD_run 3 (l' := (opsAt i50p5).toList.drop 3) (eE := E3) (H' := (mkH [Q4, Q1, Q2, Q3])) (hs := []) (by kernel_rfl) (opsD_thr (l' := (opsAt i50p5).toList.drop 4) (eE := ((13, .top) :: E3)) (hs := [(mkH [Q4, Q1, Q2, Q3])]) (fi := 113) (args := [.ptr 0 4 0]) (by kernel_rfl) (by kernel_rfl) (frS 0 (M := [Q4, Q1, Q2, Q3]) (rs := [0]) (ms := []) (mv := [0, 0, 1]) (mm := [0, 0, 1]) (D := [0, 3]) (xs' := [.ptr 0 4 0]) (.refl) (hF.i52_thr a0 a1 x1_1.2 a3 h) trivial ⟨u29 _, trivial⟩ (by kernel_rfl)) (by kernel_rfl) (opsD_dead (l' := (opsAt i50p5).toList.drop 5) (eE := ((14, .top) :: (13, .top) :: E3)) (hs := []) (by kernel_rfl) (by kernel_rfl) (opsD_dead (l' := (opsAt i50p5).toList.drop 6) (eE := ((15, .top) :: (14, .top) :: (13, .top) :: E3)) (hs := [(mkH [Q4, Q1, Q2, Q3])]) (by kernel_rfl) (by kernel_rfl) (opsD_dead (l' := (opsAt i50p5).toList.drop 7) (eE := ((16, .top) :: (15, .top) :: (14, .top) :: (13, .top) :: E3)) (hs := []) (by kernel_rfl) (by kernel_rfl) (opsD_dead (l' := (opsAt i50p5).toList.drop 8) (eE := ((16, .top) :: (15, .top) :: (14, .top) :: (13, .top) :: E3)) (hs := [(mkH [Q4, Q1, Q2, Q3])]) (by kernel_rfl) (by kernel_rfl) (.nil))))))) (by kernel_rfl) (by kernel_rfl)
   ·refine ok_bind (fun x2_5 hx2_5 => ?_)
    let E3 : Env := [(12, .ptr 0 4 0), (11, .own 2 (y3_1).length 7), (10, .ptr 3 7 2), (9, .bool true), (9, .bool x1_1.1), (8, .ptr 0 4 0), (0, .ptr 0 4 0), (2, .ptr 1 7 0), (3, .ptr 3 7 0)]
    let Q5 : Blk := ⟨[.str a0, w34 a1, .i x2_3.2, .i a3], 4, false⟩
    refine oD (H' := (mkH [Q5, Q1, ⟨(x2_5).flatMap e29, 0, false⟩, ⟨[.i 24, .str [], .own 2 (x2_5).length 7, .bool false, .bool false, .nils, .nils], 7, false⟩])) (nav [0] i50p5) ((16, .ptr 3 7 2) :: (15, .own 2 (x2_5).length 7) :: (14, w29 ([x2_3.1] : List S28)) :: (13, n29 x2_3.1) :: E3) [(mkH [Q5, Q1, Q2, Q3]), (mkH [Q5, Q1, ⟨(x2_5).flatMap e29, 0, false⟩, Q3]), (mkH [Q5, Q1, ⟨(x2_5).flatMap e29, 0, false⟩, ⟨[.i 24, .str [], .own 2 (x2_5).length 7, .bool false, .bool false, .nils, .nils], 7, false⟩])] ⟨[14], [(0, 0, 0), (1, 0, 1), (0, 0, 0), (4, 0, 0), (12, 0, 0), (31, 0, 0), (63, 0, 0), (127, 0, 0)], 8, thrown, [], H0⟩ (oDr 3 3 E3 (opsD_callM (l' := (opsAt i50p5).toList.drop 4) (eE := ((13, n29 x2_3.1) :: E3)) (hs := [(mkH [Q5, Q1, Q2, Q3])]) (H' := (mkH [Q5, Q1, Q2, Q3])) (fi := 113) (args := [.ptr 0 4 0]) (v := n29 x2_3.1) (by kernel_rfl) (frC (rs := [0]) (ms := []) (ms' := []) (hF.i52_ok a0 a1 x1_1.2 a3 x2_3 hx2_3) trivial trivial (by kernel_rfl)) (by kernel_rfl) (oDr 1 5 ((14, w29 ([x2_3.1] : List S28)) :: (13, n29 x2_3.1) :: E3) (opsD_chk (l' := (opsAt i50p5).toList.drop 6) (eE := ((15, .own 2 (x2_5).length 7) :: (14, w29 ([x2_3.1] : List S28)) :: (13, n29 x2_3.1) :: E3)) (hs := [(mkH [Q5, Q1, ⟨(x2_5).flatMap e29, 0, false⟩, Q3])]) (x := x2_5) (fun (x2_5 : (List S28)) => (.own 2 (x2_5).length 7, (mkH [Q5, Q1, ⟨(x2_5).flatMap e29, 0, false⟩, Q3]))) (appHV (sz := 7) e29_len rfl e29_one [Q5, Q1, Q2, Q3] 2 104 y3_1 ([x2_3.1] : List S28) rfl rfl (by kernel_rfl)) hx2_5 (by kernel_rfl) (oDh 2 8 ((16, .ptr 3 7 2) :: (15, .own 2 (x2_5).length 7) :: (14, w29 ([x2_3.1] : List S28)) :: (13, n29 x2_3.1) :: E3) (mkH [Q5, Q1, ⟨(x2_5).flatMap e29, 0, false⟩, ⟨[.i 24, .str [], .own 2 (x2_5).length 7, .bool false, .bool false, .nils, .nils], 7, false⟩]) [(mkH [Q5, Q1, ⟨(x2_5).flatMap e29, 0, false⟩, ⟨[.i 24, .str [], .own 2 (x2_5).length 7, .bool false, .bool false, .nils, .nils], 7, false⟩])] .nil))))) ?_
    refine oK [0, 2, 3] [(0, .ptr 0 4 0), (2, .ptr 1 7 0), (3, .ptr 3 7 0)] ?_
    exact ih x2_3.2 x2_5
  ·exact oQF 8 [⟨[.str a0, w34 a1, .i x1_1.2, .i a3], 4, false⟩, Q3, Q2, Q3] 1 [] [.agg [.i 24, .str [], .own 2 (y3_1).length 7, .bool false, .bool false, .nils, .nils]] (.agg [.i 24, .str [], w29 y3_1, .bool false, .bool false, .vec 0 1 [], .vec 0 1 []]) (.agg (.cs (.cs (fz_own e29_len e29_pur rfl rfl rfl (.cs (.cs (.nil (.nil .ps))))))) .ps) trivial
def i50B (k : Nat) (F : Fns0) (a0 : (List Nat)) (a1 : (List S33)) (a2 : Int) (a3 : Int) : Option (Option (S28 × Int)) :=
 bT (F.i52 a0 a1 a2 a3) fun x0_1 => i50_l3 k F a0 a1 a2 a3 k x0_1.2 ([(⟨x0_1.1.f0, x0_1.1.f1, x0_1.1.f2, x0_1.1.f3, x0_1.1.f4, x0_1.1.f5, x0_1.1.f6⟩ : S28)] : List S28)
theorem i50B_all (k : Nat) (F : Fns0) (hF : FnsOk0 F) (a0 : (List Nat)) (a1 : (List S33)) (a2 : Int) (a3 : Int) (r : (Option (S28 × Int))) (h : i50B k F a0 a1 a2 a3 = some r) : CallT Try.prog 110 [.ptr 0 4 0] (mkH [⟨[.str a0, w34 a1, .i a2, .i a3], 4, false⟩]) ((Xi50 a0 a1 a2 a3).thr r) ((Xi50 a0 a1 a2 a3).enc r) ((Xi50 a0 a1 a2 a3).fin r) := by
 refine callM_of (Xi50 a0 a1 a2 a3) Try.func110 (by kernel_rfl) (by kernel_rfl) rfl (t := i50B k F a0 a1 a2 a3) ?_ h
 unfold i50B
 refine ok_env (eE := [(0, .ptr 0 4 0)]) (by kernel_rfl) ?_
 let Q1 : Blk := ⟨[.i 0, .str [], .nils, .bool false, .bool false, .nils, .nils], 0, false⟩
 refine oH 7 (atN 1 (ctl1 i50p1)) [(4, .ptr 0 4 0), (2, .ptr 1 7 0), (0, .ptr 0 4 0)] (mkH [⟨[.str a0, w34 a1, .i a2, .i a3], 4, false⟩, Q1]) ?_
 refine oX (fun (x0_1 : (S28 × Int)) => n29 x0_1.1) (fun x0_1 => [⟨[.str a0, w34 a1, .i x0_1.2, .i a3], 4, false⟩, Q1]) (atN 2 (ctl1 i50p1)) 5 [0] [] [] [0] [] [.ptr 0 4 0] (hF.i52_thr a0 a1 a2 a3) (hF.i52_ok a0 a1 a2 a3) trivial (fun _ => trivial) trivial fun x0_1 hx0_1 => ?_
 let Q2 : Blk := ⟨[.str a0, w34 a1, .i x0_1.2, .i a3], 4, false⟩
 refine oH 1 (atN 3 (ctl1 i50p1)) [(6, .slice 2 7 0 1 7), (5, n29 x0_1.1), (4, .ptr 0 4 0), (2, .ptr 1 7 0), (0, .ptr 0 4 0)] (mkH [Q2, Q1, ⟨e29 x0_1.1, 0, false⟩]) ?_
 refine ok_sown 6 2 7 1 7 (by kernel_rfl) rfl ?_
 refine oLH 7 i50p2 [(0, .ptr 0 4 0), (2, .ptr 1 7 0), (3, .ptr 3 7 0)] (mkH [Q2, Q1, ⟨(([x0_1.1] : List S28)).flatMap e29, 0, false⟩, ⟨[.i 24, .str [], .own 2 (([x0_1.1] : List S28)).length 7, .bool false, .bool false, .nils, .nils], 7, false⟩]) ?_
 exact (i50_l3_ok k F hF a0 a1 a2 a3 k) x0_1.2 ([x0_1.1] : List S28)
theorem i50B_ok (k : Nat) (F : Fns0) (hF : FnsOk0 F) : Pi50 (i50B k F) := fun a0 a1 a2 a3 x h => i50B_all k F hF a0 a1 a2 a3 (some x) h
theorem i50B_thr (k : Nat) (F : Fns0) (hF : FnsOk0 F) : Qi50 (i50B k F) := fun a0 a1 a2 a3 h => ⟨_, i50B_all k F hF a0 a1 a2 a3 none h⟩
end
end Go.Proofs.Ythpplbkobokghaa.Am
set_option maxRecDepth 100000
set_option linter.unusedVariables false
namespace Go.Proofs.Ythpplbkobokghaa.Am
noncomputable section
open Go
def Xi51 (a0 : (List Nat)) (a1 : (List S33)) (a2 : Int) (a3 : Int) : Fx (Option (S28 × Int)) := ⟨Try.prog, cx, Try.f112, fun r => match r with | some r => .agg [.i r.1.f0, .str r.1.f1, q29 r.1.f2, .bool r.1.f3, .bool r.1.f4, w9 r.1.f5, w9 r.1.f6] | none => .top, 1, fun r => match r with | some r => (mkH [⟨[.str a0, w34 a1, .i r.2, .i a3], 4, false⟩]) | none => (mkH [⟨[.str a0, w34 a1, .i a2, .i a3], 4, false⟩]), cxTi, cxOrd, fun r => match r with | some _ => none | none => some (thrown, [0]), false⟩
def i51p0 : Pt := nav [0] (bodyAt Try.f112)
def i51p1 : Pt := nav [0, 0, 0] i51p0
def i51p2 : Pt := nav [0, 0, 0] i51p1
def i51B (k : Nat) (F : Fns0) (a0 : (List Nat)) (a1 : (List S33)) (a2 : Int) (a3 : Int) : Option (Option (S28 × Int)) :=
 bT (i23 k ([40] : List Nat) a0 a1 a2 a3) fun x0_1 => bT (F.i18 (23 : Int) ([] : List Nat) false false ([] : List (List Nat)) ([] : List (List Nat)) ([41] : List Nat) a0 a1 x0_1 a3 ([] : List S28)) fun x1_4 => some (some ((⟨x1_4.1, x1_4.2.1, ⟨(x1_4.2.2.2.2.2.2.2).length, (x1_4.2.2.2.2.2.2.2).flatMap e29⟩, x1_4.2.2.1, x1_4.2.2.2.1, x1_4.2.2.2.2.1, x1_4.2.2.2.2.2.1⟩ : S28), x1_4.2.2.2.2.2.2.1))
theorem i51B_all (k : Nat) (F : Fns0) (hF : FnsOk0 F) (a0 : (List Nat)) (a1 : (List S33)) (a2 : Int) (a3 : Int) (r : (Option (S28 × Int))) (h : i51B k F a0 a1 a2 a3 = some r) : CallT Try.prog 112 [.ptr 0 4 0] (mkH [⟨[.str a0, w34 a1, .i a2, .i a3], 4, false⟩]) ((Xi51 a0 a1 a2 a3).thr r) ((Xi51 a0 a1 a2 a3).enc r) ((Xi51 a0 a1 a2 a3).fin r) := by
 refine callM_of (Xi51 a0 a1 a2 a3) Try.func112 (by kernel_rfl) (by kernel_rfl) rfl (t := i51B k F a0 a1 a2 a3) ?_ h
 unfold i51B
 refine ok_env (eE := [(0, .ptr 0 4 0)]) (by kernel_rfl) ?_
 let Q1 : Blk := ⟨[.i 0, .str [], .nils, .bool false, .bool false, .nils, .nils], 0, false⟩
 refine oH 7 (atN 1 (ctl1 i51p1)) [(3, .ptr 0 4 0), (2, .ptr 1 7 0), (0, .ptr 0 4 0)] (mkH [⟨[.str a0, w34 a1, .i a2, .i a3], 4, false⟩, Q1]) ?_
 refine oX (fun (x0_1 : Int) => .tuple []) (fun x0_1 => [⟨[.str a0, w34 a1, .i x0_1, .i a3], 4, false⟩, Q1]) (atN 2 (ctl1 i51p1)) 4 [0] [] [] [0] [] [.ptr 0 4 0, .str [40]] (i23_thr k ([40] : List Nat) a0 a1 a2 a3) (i23_ok k ([40] : List Nat) a0 a1 a2 a3) trivial (fun _ => trivial) trivial fun x0_1 hx0_1 => ?_
 refine oR 7 (atN 4 (ctl1 i51p2)) [(8, .func 78 [.ptr 0 4 0] []), (7, .ptr 0 4 0), (6, .agg [.i 23, .str [], .nils, .bool false, .bool false, .nils, .nils]), (5, .ptr 0 4 0), (4, .tuple []), (3, .ptr 0 4 0), (2, .ptr 1 7 0), (0, .ptr 0 4 0)] ?_
 refine oXW 1 [⟨[.str a0, w34 a1, .i x0_1, .i a3], 4, false⟩, Q1, ⟨(([] : List S28)).flatMap e29, 0, false⟩] (fun (x1_4 : Ri18) => .agg [.i x1_4.1, .str x1_4.2.1, .own 2 (x1_4.2.2.2.2.2.2.2).length 7, .bool x1_4.2.2.1, .bool x1_4.2.2.2.1, w9 x1_4.2.2.2.2.1, w9 x1_4.2.2.2.2.2.1]) (fun x1_4 => [⟨[.str a0, w34 a1, .i x1_4.2.2.2.2.2.2.1, .i a3], 4, false⟩, Q1, ⟨(x1_4.2.2.2.2.2.2.2).flatMap e29, 0, false⟩]) (atN 5 (ctl1 i51p2)) 9 [0, 2] [0, 1] [0, 1] [0, 2] [] [0, 0, 1] [.ptr 0 4 0, .agg [.i 23, .str [], .nils, .bool false, .bool false, .nils, .nils], .str [41], .func 78 [.ptr 0 4 0] []] [.ptr 0 4 0, .agg [.i 23, .str [], .own 2 (([] : List S28)).length 7, .bool false, .bool false, w9 ([] : List (List Nat)), w9 ([] : List (List Nat))], .str [41], .func 78 [.ptr 0 4 0] []] (.cons (.agg (.cons (.cons (.none (.cons (.cons (.nil (.nil (.refl)))))))) (.refl))) (hF.i18_thr (23 : Int) ([] : List Nat) false false ([] : List (List Nat)) ([] : List (List Nat)) ([41] : List Nat) a0 a1 x0_1 a3 ([] : List S28)) (hF.i18_ok (23 : Int) ([] : List Nat) false false ([] : List (List Nat)) ([] : List (List Nat)) ([41] : List Nat) a0 a1 x0_1 a3 ([] : List S28)) ⟨u29 _, trivial⟩ (fun _ => ⟨u29 _, trivial⟩) trivial fun x1_4 hx1_4 => ?_
 exact oQF 3 [⟨[.str a0, w34 a1, .i x1_4.2.2.2.2.2.2.1, .i a3], 4, false⟩, ⟨[.i x1_4.1, .str x1_4.2.1, .own 2 (x1_4.2.2.2.2.2.2.2).length 7, .bool x1_4.2.2.1, .bool x1_4.2.2.2.1, w9 x1_4.2.2.2.2.1, w9 x1_4.2.2.2.2.2.1], 7, false⟩, ⟨(x1_4.2.2.2.2.2.2.2).flatMap e29, 0, false⟩] 1 [] [.agg [.i x1_4.1, .str x1_4.2.1, .own 2 (x1_4.2.2.2.2.2.2.2).length 7, .bool x1_4.2.2.1, .bool x1_4.2.2.2.1, w9 x1_4.2.2.2.2.1, w9 x1_4.2.2.2.2.2.1]] (.agg [.i x1_4.1, .str x1_4.2.1, w29 x1_4.2.2.2.2.2.2.2, .bool x1_4.2.2.1, .bool x1_4.2.2.2.1, w9 x1_4.2.2.2.2.1, w9 x1_4.2.2.2.2.2.1]) (.agg (.cs (.cs (fz_own e29_len e29_pur rfl rfl rfl .ps))) .ps) trivial
theorem i51B_ok (k : Nat) (F : Fns0) (hF : FnsOk0 F) : Pi51 (i51B k F) := fun a0 a1 a2 a3 x h => i51B_all k F hF a0 a1 a2 a3 (some x) h
theorem i51B_thr (k : Nat) (F : Fns0) (hF : FnsOk0 F) : Qi51 (i51B k F) := fun a0 a1 a2 a3 h => ⟨_, i51B_all k F hF a0 a1 a2 a3 none h⟩
end
end Go.Proofs.Ythpplbkobokghaa.Am
set_option maxRecDepth 100000
set_option linter.unusedVariables false
namespace Go.Proofs.Ythpplbkobokghaa.Am
noncomputable section
open Go
def Xi52 (a0 : (List Nat)) (a1 : (List S33)) (a2 : Int) (a3 : Int) : Fx (Option (S28 × Int)) := ⟨Try.prog, cx, Try.f113, fun r => match r with | some r => .agg [.i r.1.f0, .str r.1.f1, q29 r.1.f2, .bool r.1.f3, .bool r.1.f4, w9 r.1.f5, w9 r.1.f6] | none => .top, 1, fun r => match r with | some r => (mkH [⟨[.str a0, w34 a1, .i r.2, .i a3], 4, false⟩]) | none => (mkH [⟨[.str a0, w34 a1, .i a2, .i a3], 4, false⟩]), cxTi, cxOrd, fun r => match r with | some _ => none | none => some (thrown, [0]), false⟩
def i52p0 : Pt := nav [0] (bodyAt Try.f113)
def i52p1 : Pt := nav [0, 0, 0] i52p0
def i52p2 : Pt := nav [0, 0, 0, 0, 0] i52p1
def i52p3 : Pt := nav [0, 0, 0] i52p2
def i52p4 : Pt := nav [0, 0] i52p3
def i52p5 : Pt := nav [1, 0, 0] i52p4
def i52_l3B (k : Nat) (F : Fns0)  (a0 : (List Nat)) (a1 : (List S33)) (a2 : Int) (a3 : Int) (ih : Int → (List S28) → Option (Option (S28 × Int))) : Int → (List S28) → Option (Option (S28 × Int)) :=
 fun (y3_0 : Int) (y3_1 : (List S28)) => bT (i7 k ([44] : List Nat) a0 a1 y3_0 a3) fun x1_1 => if x1_1.1 then (bT (F.i5 (1 : Int) a0 a1 x1_1.2 a3) fun x2_3 => (appS 104 y3_1 ([x2_3.1] : List S28)).bind fun x2_5 => ih x2_3.2 x2_5) else (some (some ((⟨(25 : Int), ([] : List Nat), ⟨(y3_1).length, (y3_1).flatMap e29⟩, false, false, ([] : List (List Nat)), ([] : List (List Nat))⟩ : S28), x1_1.2)))
def i52_l3 (k : Nat) (F : Fns0)  (a0 : (List Nat)) (a1 : (List S33)) (a2 : Int) (a3 : Int) (n : Nat) : Int → (List S28) → Option (Option (S28 × Int)) := lp (fun _ _ => none) (i52_l3B k F a0 a1 a2 a3) n
theorem i52_l3_ok (k : Nat) (F : Fns0) (hF : FnsOk0 F) (a0 : (List Nat)) (a1 : (List S33)) (a2 : Int) (a3 : Int)    : ∀ (n : Nat) (y3_0 : Int) (y3_1 : (List S28)), Ok (Xi52 a0 a1 a2 a3) i52p2 [(0, .ptr 0 4 0), (2, .ptr 1 7 0), (3, .ptr 3 7 0)] (mkH [⟨[.str a0, w34 a1, .i y3_0, .i a3], 4, false⟩, ⟨[.i 0, .str [], .nils, .bool false, .bool false, .nils, .nils], 0, false⟩, ⟨(y3_1).flatMap e29, 0, false⟩, ⟨[.i 25, .str [], .own 2 (y3_1).length 7, .bool false, .bool false, .nils, .nils], 7, false⟩]) (i52_l3 k F a0 a1 a2 a3 n y3_0 y3_1) := by
 intro n
 induction n with
 | zero => intro y3_0 y3_1; exact ok_none
 | succ n ih =>
  intro y3_0 y3_1
  show Ok _ _ _ _ (i52_l3B k F a0 a1 a2 a3 (i52_l3 k F a0 a1 a2 a3 n) y3_0 y3_1)
  unfold i52_l3B
  refine ok_ent (p' := nav [0] i52p2) (by kernel_rfl) ?_
  let Q1 : Blk := ⟨[.i 0, .str [], .nils, .bool false, .bool false, .nils, .nils], 0, false⟩
  let Q2 : Blk := ⟨(y3_1).flatMap e29, 0, false⟩
  let Q3 : Blk := ⟨[.i 25, .str [], .own 2 (y3_1).length 7, .bool false, .bool false, .nils, .nils], 7, false⟩
  refine oH 4 (atN 1 (ctl1 i52p3)) [(8, .ptr 0 4 0), (0, .ptr 0 4 0), (2, .ptr 1 7 0), (3, .ptr 3 7 0)] (mkH [⟨[.str a0, w34 a1, .i y3_0, .i a3], 4, false⟩, Q1, Q2, Q3]) ?_
  refine oX (fun (x1_1 : (Bool × Int)) => .bool x1_1.1) (fun x1_1 => [⟨[.str a0, w34 a1, .i x1_1.2, .i a3], 4, false⟩, Q1, Q2, Q3]) (atN 2 (ctl1 i52p3)) 9 [0] [] [] [3] [0, 0, 1] [.ptr 0 4 0, .str [44]] (i7_thr k ([44] : List Nat) a0 a1 y3_0 a3) (i7_ok k ([44] : List Nat) a0 a1 y3_0 a3) trivial (fun _ => trivial) ⟨u29 _, trivial⟩ fun x1_1 hx1_1 => ?_
  let E2 : Env := [(9, .bool x1_1.1), (8, .ptr 0 4 0), (0, .ptr 0 4 0), (2, .ptr 1 7 0), (3, .ptr 3 7 0)]
  refine oR 1 i52p4 E2 ?_
  refine oS 9 (fun hb => ?_) (fun hb => ?_)
  ·refine oR 3 i52p5 ((9, .bool true) :: E2) ?_
   refine ok_bT (fun h => ?_) (fun x2_3 hx2_3 => ?_)
   ·let E3 : Env := [(12, .ptr 0 4 0), (11, .own 2 (y3_1).length 7), (10, .ptr 3 7 2), (9, .bool true), (9, .bool x1_1.1), (8, .ptr 0 4 0), (0, .ptr 0 4 0), (2, .ptr 1 7 0), (3, .ptr 3 7 0)]
    let Q4 : Blk := ⟨[.str a0, w34 a1, .i x1_1.2, .i a3], 4, false⟩
    exact ok_drawT (eE := ((16, .top) :: (15, .top) :: (14, .top) :: (13, .top) :: E3)) ⟨[14], [(0, 0, 0), (1, 0, 1), (0, 0, 0), (4, 0, 0), (12, 0, 0), (31, 0, 0), (63, 0, 0), (127, 0, 0)], 3, thrown, [0, 3], (mkH [Q4, Q1, Q2, Q3])⟩ (hs := [(mkH [Q4, Q1, Q2, Q3]), (mkH [Q4, Q1, Q2, Q3]), (mkH [Q4, Q1, Q2, Q3])]) (LX := [⟨[.str a0, w34 a1, .i a2, .i a3], 4, false⟩]) (L := [Q4, Q1, Q2, Q3]) rfl rfl rfl (by kernel_rfl) rfl ⟨.inl rfl, trivial⟩ (by kernel_rfl) (by kernel_rfl) (by kernel_rfl) (by kernel_rfl) (opsD_run 3 (l' := (opsAt i52p5).toList.drop 3) (eE := E3) (H' := (mkH [Q4, Q1, Q2, Q3])) (hs := []) (by kernel_rfl) (opsD_thr (l' := (opsAt i52p5).toList.drop 4) (eE := ((13, .top) :: E3)) (hs := [(mkH [Q4, Q1, Q2, Q3])]) (fi := 29) (args := [.ptr 0 4 0, .i 1]) (by kernel_rfl) (by kernel_rfl) (frS 0 (M := [Q4, Q1, Q2, Q3]) (rs := [0]) (ms := []) (mv := [0, 0, 1]) (mm := [0, 0, 1]) (D := [0, 3]) (xs' := [.ptr 0 4 0, .i 1]) (.refl) (hF.i5_thr (1 : Int) a0 a1 x1_1.2 a3 h) trivial ⟨u29 _, trivial⟩ (by kernel_rfl)) (by kernel_rfl) (opsD_dead (l' := (opsAt i52p5).toList.drop 5) (eE := ((14, .top) :: (13, .top) :: E3)) (hs := []) (by kernel_rfl) (by kernel_rfl) (opsD_dead (l' := (opsAt i52p5).toList.drop 6) (eE := ((15, .top) :: (14, .top) :: (13, .top) :: E3)) (hs := [(mkH [Q4, Q1, Q2, Q3])]) (by kernel_rfl) (by kernel_rfl) (opsD_dead (l' := (opsAt i52p5).toList.drop 7) (eE := ((16, .top) :: (15, .top) :: (14, .top) :: (13, .top) :: E3)) (hs := []) (by kernel_rfl) (by kernel_rfl) (opsD_dead (l' := (opsAt i52p5).toList.drop 8) (eE := ((16, .top) :: (15, .top) :: (14, .top) :: (13, .top) :: E3)) (hs := [(mkH [Q4, Q1, Q2, Q3])]) (by kernel_rfl) (by kernel_rfl) (.nil))))))) (by kernel_rfl) (by kernel_rfl)
   ·refine ok_bind (fun x2_5 hx2_5 => ?_)
    let E3 : Env := [(12, .ptr 0 4 0), (11, .own 2 (y3_1).length 7), (10, .ptr 3 7 2), (9, .bool true), (9, .bool x1_1.1), (8, .ptr 0 4 0), (0, .ptr 0 4 0), (2, .ptr 1 7 0), (3, .ptr 3 7 0)]
    let Q5 : Blk := ⟨[.str a0, w34 a1, .i x2_3.2, .i a3], 4, false⟩
    refine oD (H' := (mkH [Q5, Q1, ⟨(x2_5).flatMap e29, 0, false⟩, ⟨[.i 25, .str [], .own 2 (x2_5).length 7, .bool false, .bool false, .nils, .nils], 7, false⟩])) (nav [0] i52p5) ((16, .ptr 3 7 2) :: (15, .own 2 (x2_5).length 7) :: (14, w29 ([x2_3.1] : List S28)) :: (13, n29 x2_3.1) :: E3) [(mkH [Q5, Q1, Q2, Q3]), (mkH [Q5, Q1, ⟨(x2_5).flatMap e29, 0, false⟩, Q3]), (mkH [Q5, Q1, ⟨(x2_5).flatMap e29, 0, false⟩, ⟨[.i 25, .str [], .own 2 (x2_5).length 7, .bool false, .bool false, .nils, .nils], 7, false⟩])] ⟨[14], [(0, 0, 0), (1, 0, 1), (0, 0, 0), (4, 0, 0), (12, 0, 0), (31, 0, 0), (63, 0, 0), (127, 0, 0)], 8, thrown, [], H0⟩ (oDr 3 3 E3 (opsD_callM (l' := (opsAt i52p5).toList.drop 4) (eE := ((13, n29 x2_3.1) :: E3)) (hs := [(mkH [Q5, Q1, Q2, Q3])]) (H' := (mkH [Q5, Q1, Q2, Q3])) (fi := 29) (args := [.ptr 0 4 0, .i 1]) (v := n29 x2_3.1) (by kernel_rfl) (frC (rs := [0]) (ms := []) (ms' := []) (hF.i5_ok (1 : Int) a0 a1 x1_1.2 a3 x2_3 hx2_3) trivial trivial (by kernel_rfl)) (by kernel_rfl) (oDr 1 5 ((14, w29 ([x2_3.1] : List S28)) :: (13, n29 x2_3.1) :: E3) (opsD_chk (l' := (opsAt i52p5).toList.drop 6) (eE := ((15, .own 2 (x2_5).length 7) :: (14, w29 ([x2_3.1] : List S28)) :: (13, n29 x2_3.1) :: E3)) (hs := [(mkH [Q5, Q1, ⟨(x2_5).flatMap e29, 0, false⟩, Q3])]) (x := x2_5) (fun (x2_5 : (List S28)) => (.own 2 (x2_5).length 7, (mkH [Q5, Q1, ⟨(x2_5).flatMap e29, 0, false⟩, Q3]))) (appHV (sz := 7) e29_len rfl e29_one [Q5, Q1, Q2, Q3] 2 104 y3_1 ([x2_3.1] : List S28) rfl rfl (by kernel_rfl)) hx2_5 (by kernel_rfl) (oDh 2 8 ((16, .ptr 3 7 2) :: (15, .own 2 (x2_5).length 7) :: (14, w29 ([x2_3.1] : List S28)) :: (13, n29 x2_3.1) :: E3) (mkH [Q5, Q1, ⟨(x2_5).flatMap e29, 0, false⟩, ⟨[.i 25, .str [], .own 2 (x2_5).length 7, .bool false, .bool false, .nils, .nils], 7, false⟩]) [(mkH [Q5, Q1, ⟨(x2_5).flatMap e29, 0, false⟩, ⟨[.i 25, .str [], .own 2 (x2_5).length 7, .bool false, .bool false, .nils, .nils], 7, false⟩])] .nil))))) ?_
    refine oK [0, 2, 3] [(0, .ptr 0 4 0), (2, .ptr 1 7 0), (3, .ptr 3 7 0)] ?_
    exact ih x2_3.2 x2_5
  ·exact oQF 8 [⟨[.str a0, w34 a1, .i x1_1.2, .i a3], 4, false⟩, Q3, Q2, Q3] 1 [] [.agg [.i 25, .str [], .own 2 (y3_1).length 7, .bool false, .bool false, .nils, .nils]] (.agg [.i 25, .str [], w29 y3_1, .bool false, .bool false, .vec 0 1 [], .vec 0 1 []]) (.agg (.cs (.cs (fz_own e29_len e29_pur rfl rfl rfl (.cs (.cs (.nil (.nil .ps))))))) .ps) trivial
def i52B (k : Nat) (F : Fns0) (a0 : (List Nat)) (a1 : (List S33)) (a2 : Int) (a3 : Int) : Option (Option (S28 × Int)) :=
 bT (F.i5 (1 : Int) a0 a1 a2 a3) fun x0_1 => i52_l3 k F a0 a1 a2 a3 k x0_1.2 ([(⟨x0_1.1.f0, x0_1.1.f1, x0_1.1.f2, x0_1.1.f3, x0_1.1.f4, x0_1.1.f5, x0_1.1.f6⟩ : S28)] : List S28)
theorem i52B_all (k : Nat) (F : Fns0) (hF : FnsOk0 F) (a0 : (List Nat)) (a1 : (List S33)) (a2 : Int) (a3 : Int) (r : (Option (S28 × Int))) (h : i52B k F a0 a1 a2 a3 = some r) : CallT Try.prog 113 [.ptr 0 4 0] (mkH [⟨[.str a0, w34 a1, .i a2, .i a3], 4, false⟩]) ((Xi52 a0 a1 a2 a3).thr r) ((Xi52 a0 a1 a2 a3).enc r) ((Xi52 a0 a1 a2 a3).fin r) := by
 refine callM_of (Xi52 a0 a1 a2 a3) Try.func113 (by kernel_rfl) (by kernel_rfl) rfl (t := i52B k F a0 a1 a2 a3) ?_ h
 unfold i52B
 refine ok_env (eE := [(0, .ptr 0 4 0)]) (by kernel_rfl) ?_
 let Q1 : Blk := ⟨[.i 0, .str [], .nils, .bool false, .bool false, .nils, .nils], 0, false⟩
 refine oH 7 (atN 1 (ctl1 i52p1)) [(4, .ptr 0 4 0), (2, .ptr 1 7 0), (0, .ptr 0 4 0)] (mkH [⟨[.str a0, w34 a1, .i a2, .i a3], 4, false⟩, Q1]) ?_
 refine oX (fun (x0_1 : (S28 × Int)) => n29 x0_1.1) (fun x0_1 => [⟨[.str a0, w34 a1, .i x0_1.2, .i a3], 4, false⟩, Q1]) (atN 2 (ctl1 i52p1)) 5 [0] [] [] [0] [] [.ptr 0 4 0, .i 1] (hF.i5_thr (1 : Int) a0 a1 a2 a3) (hF.i5_ok (1 : Int) a0 a1 a2 a3) trivial (fun _ => trivial) trivial fun x0_1 hx0_1 => ?_
 let Q2 : Blk := ⟨[.str a0, w34 a1, .i x0_1.2, .i a3], 4, false⟩
 refine oH 1 (atN 3 (ctl1 i52p1)) [(6, .slice 2 7 0 1 7), (5, n29 x0_1.1), (4, .ptr 0 4 0), (2, .ptr 1 7 0), (0, .ptr 0 4 0)] (mkH [Q2, Q1, ⟨e29 x0_1.1, 0, false⟩]) ?_
 refine ok_sown 6 2 7 1 7 (by kernel_rfl) rfl ?_
 refine oLH 7 i52p2 [(0, .ptr 0 4 0), (2, .ptr 1 7 0), (3, .ptr 3 7 0)] (mkH [Q2, Q1, ⟨(([x0_1.1] : List S28)).flatMap e29, 0, false⟩, ⟨[.i 25, .str [], .own 2 (([x0_1.1] : List S28)).length 7, .bool false, .bool false, .nils, .nils], 7, false⟩]) ?_
 exact (i52_l3_ok k F hF a0 a1 a2 a3 k) x0_1.2 ([x0_1.1] : List S28)
theorem i52B_ok (k : Nat) (F : Fns0) (hF : FnsOk0 F) : Pi52 (i52B k F) := fun a0 a1 a2 a3 x h => i52B_all k F hF a0 a1 a2 a3 (some x) h
theorem i52B_thr (k : Nat) (F : Fns0) (hF : FnsOk0 F) : Qi52 (i52B k F) := fun a0 a1 a2 a3 h => ⟨_, i52B_all k F hF a0 a1 a2 a3 none h⟩
end
end Go.Proofs.Ythpplbkobokghaa.Am
set_option maxRecDepth 100000
set_option linter.unusedVariables false
namespace Go.Proofs.Ythpplbkobokghaa.Am
noncomputable section
open Go
def Xi6 (a0 : (List Nat)) (a1 : (List S33)) (a2 : Int) (a3 : Int) : Fx (Option (S28 × Int)) := ⟨Try.prog, cx, Try.f35, fun r => match r with | some r => .agg [.i r.1.f0, .str r.1.f1, q29 r.1.f2, .bool r.1.f3, .bool r.1.f4, w9 r.1.f5, w9 r.1.f6] | none => .top, 1, fun r => match r with | some r => (mkH [⟨[.str a0, w34 a1, .i r.2, .i a3], 4, false⟩]) | none => (mkH [⟨[.str a0, w34 a1, .i a2, .i a3], 4, false⟩]), cxTi, cxOrd, fun r => match r with | some _ => none | none => some (thrown, [0]), false⟩
def i6p0 : Pt := nav [0] (bodyAt Try.f35)
def i6p1 : Pt := nav [0, 0, 0, 0] i6p0
def i6p2 : Pt := nav [0, 0, 0, 0, 0] i6p1
def i6p3 : Pt := nav [0, 0] i6p2
def i6p4 : Pt := nav [0, 0, 0] i6p3
def i6p5 : Pt := nav [0, 0, 0] i6p4
def i6p6 : Pt := nav [0, 0, 0] i6p5
def i6p7 : Pt := nav [0, 0, 0, 0] i6p6
def i6p8 : Pt := nav [0, 0] i6p7
def i6_l5B (k : Nat) (F : Fns0)  (a0 : (List Nat)) (a1 : (List S33)) (a3 : Int) (ih : Int → (List S28) → Option (Option (S28 × Int))) : Int → (List S28) → Option (Option (S28 × Int)) :=
 fun (y5_0 : Int) (y5_1 : (List S28)) => jn (fun (z6 : Bool × Int × (List S28)) => (i12 k a0 a1 z6.2.1 a3).bind fun x1_1 => bT (F.i5 (0 : Int) a0 a1 x1_1.2 a3) fun x2_1 => (appS 104 z6.2.2 ([(⟨x2_1.1.f0, x2_1.1.f1, x2_1.1.f2, x2_1.1.f3, z6.1, x1_1.1, x2_1.1.f6⟩ : S28)] : List S28)).bind fun x3_4 => bT (i7 k ([44] : List Nat) a0 a1 x2_1.2 a3) fun x4_1 => if x4_1.1 then (ih x4_1.2 x3_4) else (some (some ((⟨(25 : Int), ([] : List Nat), ⟨(x3_4).length, (x3_4).flatMap e29⟩, false, false, ([] : List (List Nat)), ([] : List (List Nat))⟩ : S28), x4_1.2)))) (fun j6 => if (decide (0 < (y5_1.length : Int))) then ((g57 k a0 a1 y5_0).bind fun x0_17 => j6 (x0_17, y5_0, y5_1)) else (j6 (false, y5_0, y5_1)))
def i6_l5 (k : Nat) (F : Fns0)  (a0 : (List Nat)) (a1 : (List S33)) (a3 : Int) (n : Nat) : Int → (List S28) → Option (Option (S28 × Int)) := lp (fun _ _ => none) (i6_l5B k F a0 a1 a3) n
theorem i6_l5_ok (k : Nat) (F : Fns0) (hF : FnsOk0 F) (a0 : (List Nat)) (a1 : (List S33)) (a2 : Int) (a3 : Int)    : ∀ (n : Nat) (y5_0 : Int) (y5_1 : (List S28)), Ok (Xi6 a0 a1 a2 a3) i6p2 [(0, .ptr 0 4 0), (2, .ptr 1 7 0), (3, .ptr 2 7 0)] (mkH [⟨[.str a0, w34 a1, .i y5_0, .i a3], 4, false⟩, ⟨[.i 0, .str [], .nils, .bool false, .bool false, .nils, .nils], 0, false⟩, ⟨[.i 25, .str [], .own 3 (y5_1).length 7, .bool false, .bool false, .nils, .nils], 7, false⟩, ⟨(y5_1).flatMap e29, 0, false⟩]) (i6_l5 k F a0 a1 a3 n y5_0 y5_1) := by
 intro n
 induction n with
 | zero => intro y5_0 y5_1; exact ok_none
 | succ n ih =>
  intro y5_0 y5_1
  show Ok _ _ _ _ (i6_l5B k F a0 a1 a3 (i6_l5 k F a0 a1 a3 n) y5_0 y5_1)
  unfold i6_l5B
  let Q1 : Blk := ⟨[.i 0, .str [], .nils, .bool false, .bool false, .nils, .nils], 0, false⟩
  refine oJ i6p3 (fun (z6 : Bool × Int × (List S28)) => [(0, .ptr 0 4 0), (2, .ptr 1 7 0), (3, .ptr 2 7 0), (4, .bool z6.1)]) (fun (z6 : Bool × Int × (List S28)) => (mkH [⟨[.str a0, w34 a1, .i z6.2.1, .i a3], 4, false⟩, Q1, ⟨[.i 25, .str [], .own 3 (z6.2.2).length 7, .bool false, .bool false, .nils, .nils], 7, false⟩, ⟨(z6.2.2).flatMap e29, 0, false⟩])) (fun z6 => ?_) (fun j6 hj6 => ?_)
  ·let E1 : Env := [(27, .ptr 0 4 0), (0, .ptr 0 4 0), (2, .ptr 1 7 0), (3, .ptr 2 7 0), (4, .bool z6.1)]
   let Q2 : Blk := ⟨[.i 25, .str [], .own 3 (z6.2.2).length 7, .bool false, .bool false, .nils, .nils], 7, false⟩
   let Q3 : Blk := ⟨(z6.2.2).flatMap e29, 0, false⟩
   refine oH 2 (atN 1 (ctl1 i6p3)) E1 (mkH [⟨[.str a0, w34 a1, .i z6.2.1, .i a3], 4, false⟩, Q1, Q2, Q3]) ?_
   refine oN (fun (x1_1 : Ri12) => w9 x1_1.1) (fun x1_1 => [⟨[.str a0, w34 a1, .i x1_1.2, .i a3], 4, false⟩, Q1, Q2, Q3]) (atN 2 (ctl1 i6p3)) 28 [0] [] [] [.ptr 0 4 0] (i12_ok k a0 a1 z6.2.1 a3) trivial (fun _ => trivial) fun x1_1 hx1_1 => ?_
   refine oR 5 (atN 1 (ctl1 i6p4)) ((29, .ptr 0 4 0) :: (5, w9 x1_1.1) :: (28, w9 x1_1.1) :: E1) ?_
   refine oX (fun (x2_1 : (S28 × Int)) => n29 x2_1.1) (fun x2_1 => [⟨[.str a0, w34 a1, .i x2_1.2, .i a3], 4, false⟩, Q1, Q2, Q3]) (atN 2 (ctl1 i6p4)) 30 [0] [] [] [0, 2] [0, 0, 0, 1] [.ptr 0 4 0, .i 0] (hF.i5_thr (0 : Int) a0 a1 x1_1.2 a3) (hF.i5_ok (0 : Int) a0 a1 x1_1.2 a3) trivial (fun _ => trivial) ⟨u29 _, trivial⟩ fun x2_1 hx2_1 => ?_
   let E3 : Env := [(0, .ptr 0 4 0), (2, .ptr 1 7 0), (3, .ptr 2 7 0), (6, .ptr 4 7 0)]
   let Q4 : Blk := ⟨[.str a0, w34 a1, .i x2_1.2, .i a3], 4, false⟩
   let Q5 : Blk := ⟨[.i x2_1.1.f0, .str x2_1.1.f1, q29 x2_1.1.f2, .bool x2_1.1.f3, .bool z6.1, w9 x1_1.1, w9 x2_1.1.f6], 7, false⟩
   refine oLH 13 i6p6 E3 (mkH [Q4, Q1, Q2, Q3, Q5]) ?_
   let Q6 : Blk := ⟨[.i x2_1.1.f0, .str x2_1.1.f1, q29 x2_1.1.f2, .bool x2_1.1.f3, .bool z6.1, w9 x1_1.1, w9 x2_1.1.f6], 0, false⟩
   refine oH 5 (atN 4 (ctl1 i6p6)) ((38, .slice 5 7 0 1 7) :: (37, .agg [.i x2_1.1.f0, .str x2_1.1.f1, q29 x2_1.1.f2, .bool x2_1.1.f3, .bool z6.1, w9 x1_1.1, w9 x2_1.1.f6]) :: (36, .own 3 (z6.2.2).length 7) :: (35, .ptr 2 7 2) :: E3) (mkH [Q4, Q1, Q2, Q3, Q5, Q6]) ?_
   refine oC (fun (x3_4 : (List S28)) => (.own 3 (x3_4).length 7, (mkH [Q4, Q1, Q2, ⟨(x3_4).flatMap e29, 0, false⟩, Q5, Q6]))) (atN 5 (ctl1 i6p6)) 39 (appH (sz := 7) e29_len rfl e29_one [Q4, Q1, Q2, Q3, Q5, Q6] 3 104 z6.2.2 ([(⟨x2_1.1.f0, x2_1.1.f1, x2_1.1.f2, x2_1.1.f3, z6.1, x1_1.1, x2_1.1.f6⟩ : S28)] : List S28) rfl rfl (by kernel_rfl)) fun x3_4 hx3_4 => ?_
   let E5 : Env := [(0, .ptr 0 4 0), (2, .ptr 1 7 0), (3, .ptr 2 7 0)]
   let Q7 : Blk := ⟨[.i 25, .str [], .own 3 (x3_4).length 7, .bool false, .bool false, .nils, .nils], 7, false⟩
   let Q8 : Blk := ⟨(x3_4).flatMap e29, 0, false⟩
   refine oLH 5 i6p7 E5 (mkH [Q4, Q1, Q7, Q8, Q5, Q6]) ?_
   refine oR 2 (atN 1 (ctl1 i6p7)) ((41, .ptr 0 4 0) :: E5) ?_
   refine oX (fun (x4_1 : (Bool × Int)) => .bool x4_1.1) (fun x4_1 => [⟨[.str a0, w34 a1, .i x4_1.2, .i a3], 4, false⟩, Q1, Q7, Q8, Q5, Q6]) (atN 2 (ctl1 i6p7)) 42 [0] [] [] [2] [0, 0, 0, 1] [.ptr 0 4 0, .str [44]] (i7_thr k ([44] : List Nat) a0 a1 x2_1.2 a3) (i7_ok k ([44] : List Nat) a0 a1 x2_1.2 a3) trivial (fun _ => trivial) ⟨u29 _, trivial⟩ fun x4_1 hx4_1 => ?_
   refine oR 1 i6p8 ((42, .bool x4_1.1) :: (41, .ptr 0 4 0) :: E5) ?_
   refine oS 42 (fun hb => ?_) (fun hb => ?_)
   ·refine oL 5 i6p2 [(0, .ptr 0 4 0), (2, .ptr 1 7 0), (3, .ptr 2 7 0)] ?_
    refine ok_cut [⟨[.str a0, w34 a1, .i x4_1.2, .i a3], 4, false⟩, Q1, Q7, Q8] [Q5, Q6] (by kernel_rfl) rfl (by kernel_rfl) ⟨(by kernel_rfl), ⟨(by kernel_rfl), ⟨(by kernel_rfl), ⟨(purs_belows _ (u29 _)), trivial⟩⟩⟩⟩ ?_
    exact ih x4_1.2 x3_4
   ·exact oQF 8 [⟨[.str a0, w34 a1, .i x4_1.2, .i a3], 4, false⟩, Q7, Q7, Q8, Q5, Q6] 1 [] [.agg [.i 25, .str [], .own 3 (x3_4).length 7, .bool false, .bool false, .nils, .nils]] (.agg [.i 25, .str [], w29 x3_4, .bool false, .bool false, .vec 0 1 [], .vec 0 1 []]) (.agg (.cs (.cs (fz_own e29_len e29_pur rfl rfl rfl (.cs (.cs (.nil (.nil .ps))))))) .ps) trivial
  ·refine ok_if (fun hb7 => ?_) (fun hb7 => ?_)
   ·refine ok_bind (fun x0_17 hx0_17 => ?_)
    let E7 : Env := [(12, .bool (decide (0 < (y5_1.length : Int)))), (11, .bool (decide (0 < (y5_1.length : Int)))), (10, .i (y5_1.length : Int)), (9, .own 3 (y5_1).length 7), (8, .ptr 2 7 2), (0, .ptr 0 4 0), (2, .ptr 1 7 0), (3, .ptr 2 7 0)]
    let E8 : Env := [(24, .i y5_0), (23, .ptr 0 4 2), (22, .ptr 0 4 0), (21, .ptr 0 4 0), (20, w34 a1), (19, .ptr 0 4 1), (18, .ptr 0 4 0), (17, .ptr 0 4 0), (16, .str a0), (15, .ptr 0 4 0), (14, .ptr 0 4 0), (13, .ptr 0 4 0), (12, .bool true), (11, .bool true), (10, .i (y5_1.length : Int)), (9, .own 3 (y5_1).length 7), (8, .ptr 2 7 2), (0, .ptr 0 4 0), (2, .ptr 1 7 0), (3, .ptr 2 7 0)]
    let Q9 : Blk := ⟨[.str a0, w34 a1, .i y5_0, .i a3], 4, false⟩
    let Q10 : Blk := ⟨[.i 25, .str [], .own 3 (y5_1).length 7, .bool false, .bool false, .nils, .nils], 7, false⟩
    let Q11 : Blk := ⟨(y5_1).flatMap e29, 0, false⟩
    refine oD (H' := (mkH [Q9, Q1, Q10, Q11])) (nav [0] i6p2) ((4, .bool x0_17) :: (26, .bool x0_17) :: (25, .bool x0_17) :: E8) [(mkH [Q9, Q1, Q10, Q11])] ⟨[], [(0, 0, 0), (1, 0, 0), (3, 0, 0), (7, 0, 0), (15, 0, 0), (31, 0, 0), (63, 0, 0), (127, 0, 0), (255, 0, 0), (31, 0, 0), (543, 0, 0), (1567, 0, 0), (3615, 0, 0), (31, 0, 0), (8223, 0, 0), (24607, 0, 0), (57375, 0, 0), (131071, 0, 0), (262143, 0, 0), (524287, 0, 0)], 20, thrown, [], H0⟩ (oDr 5 5 E7 (opsD_env (eE := [(12, .bool true), (11, .bool true), (10, .i (y5_1.length : Int)), (9, .own 3 (y5_1).length 7), (8, .ptr 2 7 2), (0, .ptr 0 4 0), (2, .ptr 1 7 0), (3, .ptr 2 7 0)]) (congrArg (fun z : Bool => ([(12, .bool z), (11, .bool z), (10, .i (y5_1.length : Int)), (9, .own 3 (y5_1).length 7), (8, .ptr 2 7 2), (0, .ptr 0 4 0), (2, .ptr 1 7 0), (3, .ptr 2 7 0)] : Env)) hb7) (oDr 12 17 E8 (opsD_call (l' := (opsAt i6p2).toList.drop 18) (eE := ((25, .bool x0_17) :: E8)) (hs := [(mkH [Q9, Q1, Q10, Q11])]) (fi := 57) (args := [.str a0, w34 a1, .i y5_0]) (v := .bool x0_17) (by kernel_rfl) (by kernel_rfl) (by kernel_rfl) (g57_ok k a0 a1 y5_0 x0_17 hx0_17) (by kernel_rfl) (oDr 2 20 ((4, .bool x0_17) :: (26, .bool x0_17) :: (25, .bool x0_17) :: E8) .nil))))) ?_
    refine oL 1 i6p3 [(0, .ptr 0 4 0), (2, .ptr 1 7 0), (3, .ptr 2 7 0), (4, .bool x0_17)] ?_
    exact hj6 (x0_17, y5_0, y5_1)
   ·let E7 : Env := [(12, .bool (decide (0 < (y5_1.length : Int)))), (11, .bool (decide (0 < (y5_1.length : Int)))), (10, .i (y5_1.length : Int)), (9, .own 3 (y5_1).length 7), (8, .ptr 2 7 2), (0, .ptr 0 4 0), (2, .ptr 1 7 0), (3, .ptr 2 7 0)]
    let E10 : Env := [(4, .bool false), (26, .bool false), (25, .tuple []), (24, .tuple []), (23, .tuple []), (22, .tuple []), (21, .tuple []), (20, .tuple []), (19, .tuple []), (18, .tuple []), (17, .tuple []), (16, .tuple []), (15, .tuple []), (14, .tuple []), (13, .tuple []), (12, .bool false), (11, .bool false), (10, .i (y5_1.length : Int)), (9, .own 3 (y5_1).length 7), (8, .ptr 2 7 2), (0, .ptr 0 4 0), (2, .ptr 1 7 0), (3, .ptr 2 7 0)]
    let Q12 : Blk := ⟨[.str a0, w34 a1, .i y5_0, .i a3], 4, false⟩
    let Q13 : Blk := ⟨[.i 25, .str [], .own 3 (y5_1).length 7, .bool false, .bool false, .nils, .nils], 7, false⟩
    let Q14 : Blk := ⟨(y5_1).flatMap e29, 0, false⟩
    refine oD (H' := (mkH [Q12, Q1, Q13, Q14])) (nav [0] i6p2) E10 [(mkH [Q12, Q1, Q13, Q14])] ⟨[], [(0, 0, 0), (1, 0, 0), (3, 0, 0), (7, 0, 0), (15, 0, 0), (31, 0, 0), (63, 0, 0), (127, 0, 0), (255, 0, 0), (31, 0, 0), (543, 0, 0), (1567, 0, 0), (3615, 0, 0), (31, 0, 0), (8223, 0, 0), (24607, 0, 0), (57375, 0, 0), (131071, 0, 0), (262143, 0, 0), (524287, 0, 0)], 20, thrown, [], H0⟩ (oDr 5 5 E7 (opsD_env (eE := [(12, .bool false), (11, .bool false), (10, .i (y5_1.length : Int)), (9, .own 3 (y5_1).length 7), (8, .ptr 2 7 2), (0, .ptr 0 4 0), (2, .ptr 1 7 0), (3, .ptr 2 7 0)]) (congrArg (fun z : Bool => ([(12, .bool z), (11, .bool z), (10, .i (y5_1.length : Int)), (9, .own 3 (y5_1).length 7), (8, .ptr 2 7 2), (0, .ptr 0 4 0), (2, .ptr 1 7 0), (3, .ptr 2 7 0)] : Env)) hb7) (oDh 15 20 E10 (mkH [Q12, Q1, Q13, Q14]) [(mkH [Q12, Q1, Q13, Q14])] .nil))) ?_
    refine oL 1 i6p3 [(0, .ptr 0 4 0), (2, .ptr 1 7 0), (3, .ptr 2 7 0), (4, .bool false)] ?_
    exact hj6 (false, y5_0, y5_1)
def i6B (k : Nat) (F : Fns0) (a0 : (List Nat)) (a1 : (List S33)) (a2 : Int) (a3 : Int) : Option (Option (S28 × Int)) :=
 i6_l5 k F a0 a1 a3 k a2 ([] : List S28)
theorem i6B_all (k : Nat) (F : Fns0) (hF : FnsOk0 F) (a0 : (List Nat)) (a1 : (List S33)) (a2 : Int) (a3 : Int) (r : (Option (S28 × Int))) (h : i6B k F a0 a1 a2 a3 = some r) : CallT Try.prog 35 [.ptr 0 4 0] (mkH [⟨[.str a0, w34 a1, .i a2, .i a3], 4, false⟩]) ((Xi6 a0 a1 a2 a3).thr r) ((Xi6 a0 a1 a2 a3).enc r) ((Xi6 a0 a1 a2 a3).fin r) := by
 refine callM_of (Xi6 a0 a1 a2 a3) Try.func35 (by kernel_rfl) (by kernel_rfl) rfl (t := i6B k F a0 a1 a2 a3) ?_ h
 unfold i6B
 refine ok_env (eE := [(0, .ptr 0 4 0)]) (by kernel_rfl) ?_
 let Q1 : Blk := ⟨[.str a0, w34 a1, .i a2, .i a3], 4, false⟩
 let Q2 : Blk := ⟨[.i 0, .str [], .nils, .bool false, .bool false, .nils, .nils], 0, false⟩
 let Q3 : Blk := ⟨[.i 25, .str [], .nils, .bool false, .bool false, .nils, .nils], 7, false⟩
 refine oH 14 i6p2 [(3, .ptr 2 7 0), (7, .agg [.i 25, .str [], .nils, .bool false, .bool false, .nils, .nils]), (2, .ptr 1 7 0), (0, .ptr 0 4 0)] (mkH [Q1, Q2, Q3]) ?_
 refine ok_ghost [Q1, Q2, Q3] (by kernel_rfl) ?_
 let Q4 : Blk := ⟨(([] : List S28)).flatMap e29, 0, false⟩
 refine oHp (mkH [Q1, Q2, Q3, Q4]) ?_
 refine ok_wkH [Q1, Q2, Q3, Q4] 2 7 [.i 25, .str [], .nils, .bool false, .bool false, .nils, .nils] [.i 25, .str [], .own 3 (([] : List S28)).length 7, .bool false, .bool false, .nils, .nils] (by kernel_rfl) rfl (.cons (.cons (.none (.refl)))) ?_
 refine oHp (mkH [Q1, Q2, ⟨[.i 25, .str [], .own 3 (([] : List S28)).length 7, .bool false, .bool false, .nils, .nils], 7, false⟩, Q4]) ?_
 refine oK [0, 2, 3] [(0, .ptr 0 4 0), (2, .ptr 1 7 0), (3, .ptr 2 7 0)] ?_
 exact (i6_l5_ok k F hF a0 a1 a2 a3 k) a2 ([] : List S28)
theorem i6B_ok (k : Nat) (F : Fns0) (hF : FnsOk0 F) : Pi6 (i6B k F) := fun a0 a1 a2 a3 x h => i6B_all k F hF a0 a1 a2 a3 (some x) h
theorem i6B_thr (k : Nat) (F : Fns0) (hF : FnsOk0 F) : Qi6 (i6B k F) := fun a0 a1 a2 a3 h => ⟨_, i6B_all k F hF a0 a1 a2 a3 none h⟩
end
end Go.Proofs.Ythpplbkobokghaa.Am
set_option maxRecDepth 100000
set_option linter.unusedVariables false
namespace Go.Proofs.Ythpplbkobokghaa.Am
noncomputable section
open Go
def Xi8 (a0 : (List Nat)) (a1 : (List S33)) (a2 : Int) (a3 : Int) : Fx (Option Ri8) := ⟨Try.prog, cx, Try.f48, fun r => match r with | some r => .tuple [.agg [.i r.1.f0, .str r.1.f1, q29 r.1.f2, .bool r.1.f3, .bool r.1.f4, w9 r.1.f5, w9 r.1.f6], .i r.2.1] | none => .top, 1, fun r => match r with | some r => (mkH [⟨[.str a0, w34 a1, .i r.2.2, .i a3], 4, false⟩]) | none => (mkH [⟨[.str a0, w34 a1, .i a2, .i a3], 4, false⟩]), cxTi, cxOrd, fun r => match r with | some _ => none | none => some (thrown, [0]), false⟩
def i8p0 : Pt := nav [0] (bodyAt Try.f48)
def i8p1 : Pt := nav [0, 0, 0] i8p0
def i8p2 : Pt := nav [0, 0, 0, 0] i8p1
def i8p3 : Pt := nav [0, 0] i8p2
def i8p4 : Pt := nav [1, 0] i8p3
def i8p5 : Pt := nav [2, 0, 0] i8p3
def i8p6 : Pt := nav [0, 0, 0] i8p4
def i8p7 : Pt := nav [0, 0, 0] i8p5
def i8p8 : Pt := nav [0, 0, 0] i8p6
def i8B (k : Nat) (F : Fns0) (a0 : (List Nat)) (a1 : (List S33)) (a2 : Int) (a3 : Int) : Option (Option Ri8) :=
 (i9 k a0 a1 a2 a3).bind fun x0_1 => (i10 k x0_1.f1 a0 a1 a2 a3).bind fun x1_3 => jn (fun (z7 : Bool) => if z7 then (bT (i11 k a0 a1 a2 a3) fun x2_1 => bT (F.i8 a0 a1 x2_1 a3) fun x3_1 => (g65 k x0_1.f1).bind fun x4_7 => some (some ((⟨(13 : Int), x0_1.f1, ⟨(([(⟨x3_1.1.f0, x3_1.1.f1, x3_1.1.f2, x3_1.1.f3, x3_1.1.f4, x3_1.1.f5, x3_1.1.f6⟩ : S28)] : List S28)).length, (([(⟨x3_1.1.f0, x3_1.1.f1, x3_1.1.f2, x3_1.1.f3, x3_1.1.f4, x3_1.1.f5, x3_1.1.f6⟩ : S28)] : List S28)).flatMap e29⟩, false, false, ([] : List (List Nat)), ([] : List (List Nat))⟩ : S28), x4_7, x3_1.2.2))) else (bT (F.i13 a0 a1 a2 a3) fun x5_1 => bT (F.i14 x5_1.1.f0 x5_1.1.f1 x5_1.1.f2 x5_1.1.f3 x5_1.1.f4 x5_1.1.f5 x5_1.1.f6 x5_1.2.1 a0 a1 x5_1.2.2 a3) fun x6_3 => some (some ((⟨x6_3.1.f0, x6_3.1.f1, x6_3.1.f2, x6_3.1.f3, x6_3.1.f4, x6_3.1.f5, x6_3.1.f6⟩ : S28), (11 : Int), x6_3.2)))) (fun j7 => if x1_3 then ((g65 k x0_1.f1).bind fun x1_7 => j7 (decide (0 < x1_7))) else (j7 false))
theorem i8B_all (k : Nat) (F : Fns0) (hF : FnsOk0 F) (a0 : (List Nat)) (a1 : (List S33)) (a2 : Int) (a3 : Int) (r : (Option Ri8)) (h : i8B k F a0 a1 a2 a3 = some r) : CallT Try.prog 48 [.ptr 0 4 0] (mkH [⟨[.str a0, w34 a1, .i a2, .i a3], 4, false⟩]) ((Xi8 a0 a1 a2 a3).thr r) ((Xi8 a0 a1 a2 a3).enc r) ((Xi8 a0 a1 a2 a3).fin r) := by
 refine callM_of (Xi8 a0 a1 a2 a3) Try.func48 (by kernel_rfl) (by kernel_rfl) rfl (t := i8B k F a0 a1 a2 a3) ?_ h
 unfold i8B
 refine ok_env (eE := [(0, .ptr 0 4 0)]) (by kernel_rfl) ?_
 let Q1 : Blk := ⟨[.str a0, w34 a1, .i a2, .i a3], 4, false⟩
 let Q2 : Blk := ⟨[.i 0, .str [], .nils, .bool false, .bool false, .nils, .nils], 0, false⟩
 refine oH 8 (atN 1 (ctl1 i8p1)) [(9, .ptr 0 4 0), (3, .i 0), (2, .ptr 1 7 0), (0, .ptr 0 4 0)] (mkH [Q1, Q2]) ?_
 refine oN (fun (x0_1 : S33) => n34 x0_1) (fun x0_1 => [Q1, Q2]) (atN 2 (ctl1 i8p1)) 10 [0] [] [] [.ptr 0 4 0] (i9_ok k a0 a1 a2 a3) trivial (fun _ => trivial) fun x0_1 hx0_1 => ?_
 let E1 : Env := [(13, .str x0_1.f1), (12, .ptr 2 3 1), (11, .ptr 0 4 0), (4, .ptr 2 3 0), (10, n34 x0_1), (9, .ptr 0 4 0), (3, .i 0), (2, .ptr 1 7 0), (0, .ptr 0 4 0)]
 refine oH 9 (atN 3 (ctl1 i8p2)) E1 (mkH [Q1, Q2, ⟨e34 x0_1, 3, false⟩]) ?_
 refine oN (fun (x1_3 : Bool) => .bool x1_3) (fun x1_3 => [Q1, Q2, ⟨e34 x0_1, 3, false⟩]) (atN 4 (ctl1 i8p2)) 14 [0] [] [] [.ptr 0 4 0, .str x0_1.f1] (i10_ok k x0_1.f1 a0 a1 a2 a3) trivial (fun _ => trivial) fun x1_3 hx1_3 => ?_
 refine oR 1 (atN 5 (ctl1 i8p2)) ((15, .bool x1_3) :: (14, .bool x1_3) :: E1) ?_
 refine oJ i8p3 (fun (z7 : Bool) => [(0, .ptr 0 4 0), (2, .ptr 1 7 0), (4, .ptr 2 3 0), (20, .bool z7)]) (fun (z7 : Bool) => (mkH [Q1, Q2, ⟨e34 x0_1, 3, false⟩])) (fun z7 => ?_) (fun j7 hj7 => ?_)
 ·refine oS 20 (fun hb => ?_) (fun hb => ?_)
  ·let E2 : Env := [(21, .ptr 0 4 0), (20, .bool true), (0, .ptr 0 4 0), (2, .ptr 1 7 0), (4, .ptr 2 3 0), (20, .bool z7)]
   refine oH 4 (atN 1 (ctl1 i8p4)) E2 (mkH [Q1, Q2, ⟨e34 x0_1, 3, false⟩]) ?_
   refine oX (fun (x2_1 : Int) => .tuple []) (fun x2_1 => [⟨[.str a0, w34 a1, .i x2_1, .i a3], 4, false⟩, Q2, ⟨e34 x0_1, 3, false⟩]) (atN 2 (ctl1 i8p4)) 22 [0] [] [] [] [] [.ptr 0 4 0] (i11_thr k a0 a1 a2 a3) (i11_ok k a0 a1 a2 a3) trivial (fun _ => trivial) trivial fun x2_1 hx2_1 => ?_
   refine oR 4 (atN 1 (ctl1 i8p6)) ((24, .ptr 0 4 0) :: (22, .tuple []) :: E2) ?_
   refine oX (fun (x3_1 : Ri8) => .tuple [n29 x3_1.1, .i x3_1.2.1]) (fun x3_1 => [⟨[.str a0, w34 a1, .i x3_1.2.2, .i a3], 4, false⟩, Q2, ⟨e34 x0_1, 3, false⟩]) (atN 2 (ctl1 i8p6)) 25 [0] [] [] [0] [] [.ptr 0 4 0] (hF.i8_thr a0 a1 x2_1 a3) (hF.i8_ok a0 a1 x2_1 a3) trivial (fun _ => trivial) trivial fun x3_1 hx3_1 => ?_
   let Q3 : Blk := ⟨[.str a0, w34 a1, .i x3_1.2.2, .i a3], 4, false⟩
   let K1 : List Blk := [Q3, Q2, ⟨e34 x0_1, 3, false⟩, ⟨e29 x3_1.1, 7, false⟩]
   refine oLH 8 i8p8 [(2, .ptr 1 7 0), (4, .ptr 2 3 0), (5, .ptr 3 7 0)] (mkH K1) ?_
   refine ok_bind (fun x4_7 hx4_7 => ?_)
   let E5 : Env := [(34, .str x0_1.f1), (33, .ptr 2 3 1), (32, .agg [.i 13, .str x0_1.f1, w29 ([x3_1.1] : List S28), .bool false, .bool false, .nils, .nils]), (31, w29 ([x3_1.1] : List S28)), (30, n29 x3_1.1), (29, .str x0_1.f1), (28, .ptr 2 3 1), (2, .ptr 1 7 0), (4, .ptr 2 3 0), (5, .ptr 3 7 0)]
   let K2 : List Blk := [Q3, ⟨[.i 13, .str x0_1.f1, w29 ([x3_1.1] : List S28), .bool false, .bool false, .nils, .nils], 7, false⟩, ⟨e34 x0_1, 3, false⟩, ⟨e29 x3_1.1, 7, false⟩]
   refine oD (H' := (mkH K2)) (nav [0] i8p8) ((3, .i x4_7) :: (35, .i x4_7) :: E5) [(mkH K1), (mkH K2)] ⟨[31], [(0, 0, 0), (1, 0, 1), (0, 0, 1), (4, 0, 0), (15, 0, 0), (0, 0, 0), (32, 0, 0), (96, 0, 0), (255, 0, 0), (511, 0, 0)], 10, thrown, [], H0⟩ (oDr 7 7 E5 (opsD_call (l' := (opsAt i8p8).toList.drop 8) (eE := ((35, .i x4_7) :: E5)) (hs := [(mkH K1)]) (fi := 65) (args := [.str x0_1.f1]) (v := .i x4_7) (by kernel_rfl) (by kernel_rfl) (by kernel_rfl) (g65_ok k x0_1.f1 x4_7 hx4_7) (by kernel_rfl) (oDh 2 10 ((3, .i x4_7) :: (35, .i x4_7) :: E5) (mkH K2) [(mkH K2)] .nil))) ?_
   exact oQF 1 K2 1 [] [.agg [.i 13, .str x0_1.f1, w29 ([x3_1.1] : List S28), .bool false, .bool false, .nils, .nils], .i x4_7] (.tuple [.agg [.i 13, .str x0_1.f1, w29 ([x3_1.1] : List S28), .bool false, .bool false, .vec 0 1 [], .vec 0 1 []], .i x4_7]) (.tuple (.agg (.cs (.cs (.cs (.cs (.cs (.nil (.nil .ps))))))) .ps) .ps) trivial
  ·refine oH 5 (atN 1 (ctl1 i8p5)) [(37, .ptr 0 4 0), (20, .bool false), (0, .ptr 0 4 0), (2, .ptr 1 7 0), (4, .ptr 2 3 0), (20, .bool z7)] (mkH [Q1, Q2, ⟨e34 x0_1, 3, false⟩]) ?_
   refine oX (fun (x5_1 : Ri13) => .tuple [n29 x5_1.1, .bool x5_1.2.1]) (fun x5_1 => [⟨[.str a0, w34 a1, .i x5_1.2.2, .i a3], 4, false⟩, Q2, ⟨e34 x0_1, 3, false⟩]) (atN 2 (ctl1 i8p5)) 38 [0] [] [] [0] [] [.ptr 0 4 0] (hF.i13_thr a0 a1 a2 a3) (hF.i13_ok a0 a1 a2 a3) trivial (fun _ => trivial) trivial fun x5_1 hx5_1 => ?_
   let E8 : Env := [(0, .ptr 0 4 0), (2, .ptr 1 7 0), (7, .ptr 3 7 0), (8, .bool x5_1.2.1)]
   refine oLH 8 i8p7 E8 (mkH [⟨[.str a0, w34 a1, .i x5_1.2.2, .i a3], 4, false⟩, Q2, ⟨e34 x0_1, 3, false⟩, ⟨e29 x5_1.1, 7, false⟩]) ?_
   refine oR 4 (atN 3 (ctl1 i8p7)) ((43, .bool x5_1.2.1) :: (42, n29 x5_1.1) :: (41, .ptr 0 4 0) :: E8) ?_
   refine oX (fun (x6_3 : (S28 × Int)) => n29 x6_3.1) (fun x6_3 => [⟨[.str a0, w34 a1, .i x6_3.2, .i a3], 4, false⟩, Q2, ⟨e34 x0_1, 3, false⟩, ⟨e29 x5_1.1, 7, false⟩]) (atN 4 (ctl1 i8p7)) 44 [0] [] [] [0] [] [.ptr 0 4 0, n29 x5_1.1, .bool x5_1.2.1] (hF.i14_thr x5_1.1.f0 x5_1.1.f1 x5_1.1.f2 x5_1.1.f3 x5_1.1.f4 x5_1.1.f5 x5_1.1.f6 x5_1.2.1 a0 a1 x5_1.2.2 a3) (hF.i14_ok x5_1.1.f0 x5_1.1.f1 x5_1.1.f2 x5_1.1.f3 x5_1.1.f4 x5_1.1.f5 x5_1.1.f6 x5_1.2.1 a0 a1 x5_1.2.2 a3) trivial (fun _ => trivial) trivial fun x6_3 hx6_3 => ?_
   exact oQF 4 [⟨[.str a0, w34 a1, .i x6_3.2, .i a3], 4, false⟩, ⟨e29 x6_3.1, 7, false⟩, ⟨e34 x0_1, 3, false⟩, ⟨e29 x5_1.1, 7, false⟩] 1 [] [n29 x6_3.1, .i 11] (.tuple [n29 x6_3.1, .i 11]) .ps trivial
 ·refine oS 15 (fun hb => ?_) (fun hb => ?_)
  ·refine oH 2 (atN 7 (ctl1 i8p2)) ((17, .str x0_1.f1) :: (16, .ptr 2 3 1) :: (15, .bool true) :: (15, .bool x1_3) :: (14, .bool x1_3) :: E1) (mkH [Q1, Q2, ⟨e34 x0_1, 3, false⟩]) ?_
   refine oA (fun (x1_7 : Int) => .i x1_7) (atN 8 (ctl1 i8p2)) 18 [.str x0_1.f1] (g65_ok k x0_1.f1) fun x1_7 hx1_7 => ?_
   refine oL 3 i8p3 [(0, .ptr 0 4 0), (2, .ptr 1 7 0), (4, .ptr 2 3 0), (20, .bool (decide (0 < x1_7)))] ?_
   exact hj7 (decide (0 < x1_7))
  ·refine oLH 6 i8p3 [(0, .ptr 0 4 0), (2, .ptr 1 7 0), (4, .ptr 2 3 0), (20, .bool false)] (mkH [Q1, Q2, ⟨e34 x0_1, 3, false⟩]) ?_
   exact hj7 false
theorem i8B_ok (k : Nat) (F : Fns0) (hF : FnsOk0 F) : Pi8 (i8B k F) := fun a0 a1 a2 a3 x h => i8B_all k F hF a0 a1 a2 a3 (some x) h
theorem i8B_thr (k : Nat) (F : Fns0) (hF : FnsOk0 F) : Qi8 (i8B k F) := fun a0 a1 a2 a3 h => ⟨_, i8B_all k F hF a0 a1 a2 a3 none h⟩
end
end Go.Proofs.Ythpplbkobokghaa.Am
set_option maxRecDepth 100000
set_option linter.unusedVariables false
namespace Go.Proofs.Ythpplbkobokghaa.Am
noncomputable section
open Go
def par0 (n : Nat) : Fns0 := Nat.rec (motive := fun _ => Fns0) ⟨fun _ _ _ _ _ => none, fun _ _ _ _ => none, fun _ _ _ _ => none, fun _ _ _ _ => none, fun _ _ _ _ _ _ _ _ _ _ _ _ => none, fun _ _ _ _ => none, fun _ _ _ _ _ _ _ _ _ _ _ _ => none, fun _ _ _ _ => none, fun _ _ _ _ _ _ _ _ _ _ _ _ => none, fun _ _ _ _ _ _ _ _ _ _ _ _ => none, fun _ _ _ _ => none, fun _ _ _ _ => none, fun _ _ _ _ _ _ _ _ _ _ _ => none, fun _ _ _ _ => none, fun _ _ _ _ _ _ _ _ _ _ _ => none, fun _ _ _ _ => none, fun _ _ _ _ => none, fun _ _ _ _ => none, fun _ _ _ _ _ _ _ _ _ _ _ => none, fun _ _ _ _ _ _ _ _ _ _ _ => none, fun _ _ _ _ => none, fun _ _ _ _ _ => none, fun _ _ _ _ _ => none, fun _ _ _ _ _ => none, fun _ _ _ _ _ => none, fun _ _ _ _ => none, fun _ _ _ _ => none, fun _ _ _ _ => none, fun _ _ _ _ _ _ _ _ _ _ _ _ _ _ _ _ _ _ _ => none, fun _ _ _ _ _ => none, fun _ _ _ _ => none, fun _ _ _ _ => none, fun _ _ _ _ => none, fun _ _ _ _ => none⟩ (fun k F => ⟨i5B k F, i6B k F, i8B k F, i13B k F, i14B k F, i17B k F, i18B k F, i19B k F, i20B k F, i21B k F, i24B k F, i25B k F, i26B k F, i29B k F, i30B k F, i31B k F, i32B k F, i34B k F, i36B k F, i37B k F, i38B k F, i40B k F, i41B k F, i42B k F, i43B k F, i44B k F, i45B k F, i46B k F, i47B k F, i48B k F, i49B k F, i50B k F, i51B k F, i52B k F⟩) n
theorem par0_ok : ∀ k, FnsOk0 (par0 k)
 | 0 => ⟨(fun _ _ _ _ _ _ h => nomatch h), (fun _ _ _ _ _ h => nomatch h), (fun _ _ _ _ _ h => nomatch h), (fun _ _ _ _ h => nomatch h), (fun _ _ _ _ _ h => nomatch h), (fun _ _ _ _ h => nomatch h), (fun _ _ _ _ _ h => nomatch h), (fun _ _ _ _ h => nomatch h), (fun _ _ _ _ _ _ _ _ _ _ _ _ _ h => nomatch h), (fun _ _ _ _ _ _ _ _ _ _ _ _ h => nomatch h), (fun _ _ _ _ _ h => nomatch h), (fun _ _ _ _ h => nomatch h), (fun _ _ _ _ _ _ _ _ _ _ _ _ _ h => nomatch h), (fun _ _ _ _ _ _ _ _ _ _ _ _ h => nomatch h), (fun _ _ _ _ _ h => nomatch h), (fun _ _ _ _ h => nomatch h), (fun _ _ _ _ _ _ _ _ _ _ _ _ _ h => nomatch h), (fun _ _ _ _ _ _ _ _ _ _ _ _ h => nomatch h), (fun _ _ _ _ _ _ _ _ _ _ _ _ _ h => nomatch h), (fun _ _ _ _ _ _ _ _ _ _ _ _ h => nomatch h), (fun _ _ _ _ _ h => nomatch h), (fun _ _ _ _ h => nomatch h), (fun _ _ _ _ _ h => nomatch h), (fun _ _ _ _ h => nomatch h), (fun _ _ _ _ _ _ _ _ _ _ _ _ h => nomatch h), (fun _ _ _ _ _ _ _ _ _ _ _ h => nomatch h), (fun _ _ _ _ _ h => nomatch h), (fun _ _ _ _ h => nomatch h), (fun _ _ _ _ _ _ _ _ _ _ _ _ h => nomatch h), (fun _ _ _ _ _ _ _ _ _ _ _ h => nomatch h), (fun _ _ _ _ _ h => nomatch h), (fun _ _ _ _ h => nomatch h), (fun _ _ _ _ _ h => nomatch h), (fun _ _ _ _ h => nomatch h), (fun _ _ _ _ _ h => nomatch h), (fun _ _ _ _ h => nomatch h), (fun _ _ _ _ _ _ _ _ _ _ _ _ h => nomatch h), (fun _ _ _ _ _ _ _ _ _ _ _ h => nomatch h), (fun _ _ _ _ _ _ _ _ _ _ _ _ h => nomatch h), (fun _ _ _ _ _ _ _ _ _ _ _ h => nomatch h), (fun _ _ _ _ _ h => nomatch h), (fun _ _ _ _ h => nomatch h), (fun _ _ _ _ _ _ h => nomatch h), (fun _ _ _ _ _ h => nomatch h), (fun _ _ _ _ _ _ h => nomatch h), (fun _ _ _ _ _ h => nomatch h), (fun _ _ _ _ _ _ h => nomatch h), (fun _ _ _ _ _ h => nomatch h), (fun _ _ _ _ _ _ h => nomatch h), (fun _ _ _ _ _ h => nomatch h), (fun _ _ _ _ _ h => nomatch h), (fun _ _ _ _ h => nomatch h), (fun _ _ _ _ _ h => nomatch h), (fun _ _ _ _ h => nomatch h), (fun _ _ _ _ _ h => nomatch h), (fun _ _ _ _ h => nomatch h), (fun _ _ _ _ _ _ _ _ _ _ _ _ _ _ _ _ _ _ _ _ h => nomatch h), (fun _ _ _ _ _ _ _ _ _ _ _ _ _ _ _ _ _ _ _ h => nomatch h), (fun _ _ _ _ _ _ h => nomatch h), (fun _ _ _ _ _ h => nomatch h), (fun _ _ _ _ _ h => nomatch h), (fun _ _ _ _ h => nomatch h), (fun _ _ _ _ _ h => nomatch h), (fun _ _ _ _ h => nomatch h), (fun _ _ _ _ _ h => nomatch h), (fun _ _ _ _ h => nomatch h), (fun _ _ _ _ _ h => nomatch h), (fun _ _ _ _ h => nomatch h)⟩
 | k + 1 => ⟨i5B_ok k (par0 k) (par0_ok k), i5B_thr k (par0 k) (par0_ok k), i6B_ok k (par0 k) (par0_ok k), i6B_thr k (par0 k) (par0_ok k), i8B_ok k (par0 k) (par0_ok k), i8B_thr k (par0 k) (par0_ok k), i13B_ok k (par0 k) (par0_ok k), i13B_thr k (par0 k) (par0_ok k), i14B_ok k (par0 k) (par0_ok k), i14B_thr k (par0 k) (par0_ok k), i17B_ok k (par0 k) (par0_ok k), i17B_thr k (par0 k) (par0_ok k), i18B_ok k (par0 k) (par0_ok k), i18B_thr k (par0 k) (par0_ok k), i19B_ok k (par0 k) (par0_ok k), i19B_thr k (par0 k) (par0_ok k), i20B_ok k (par0 k) (par0_ok k), i20B_thr k (par0 k) (par0_ok k), i21B_ok k (par0 k) (par0_ok k), i21B_thr k (par0 k) (par0_ok k), i24B_ok k (par0 k) (par0_ok k), i24B_thr k (par0 k) (par0_ok k), i25B_ok k (par0 k) (par0_ok k), i25B_thr k (par0 k) (par0_ok k), i26B_ok k (par0 k) (par0_ok k), i26B_thr k (par0 k) (par0_ok k), i29B_ok k (par0 k) (par0_ok k), i29B_thr k (par0 k) (par0_ok k), i30B_ok k (par0 k) (par0_ok k), i30B_thr k (par0 k) (par0_ok k), i31B_ok k (par0 k) (par0_ok k), i31B_thr k (par0 k) (par0_ok k), i32B_ok k (par0 k) (par0_ok k), i32B_thr k (par0 k) (par0_ok k), i34B_ok k (par0 k) (par0_ok k), i34B_thr k (par0 k) (par0_ok k), i36B_ok k (par0 k) (par0_ok k), i36B_thr k (par0 k) (par0_ok k), i37B_ok k (par0 k) (par0_ok k), i37B_thr k (par0 k) (par0_ok k), i38B_ok k (par0 k) (par0_ok k), i38B_thr k (par0 k) (par0_ok k), i40B_ok k (par0 k) (par0_ok k), i40B_thr k (par0 k) (par0_ok k), i41B_ok k (par0 k) (par0_ok k), i41B_thr k (par0 k) (par0_ok k), i42B_ok k (par0 k) (par0_ok k), i42B_thr k (par0 k) (par0_ok k), i43B_ok k (par0 k) (par0_ok k), i43B_thr k (par0 k) (par0_ok k), i44B_ok k (par0 k) (par0_ok k), i44B_thr k (par0 k) (par0_ok k), i45B_ok k (par0 k) (par0_ok k), i45B_thr k (par0 k) (par0_ok k), i46B_ok k (par0 k) (par0_ok k), i46B_thr k (par0 k) (par0_ok k), i47B_ok k (par0 k) (par0_ok k), i47B_thr k (par0 k) (par0_ok k), i48B_ok k (par0 k) (par0_ok k), i48B_thr k (par0 k) (par0_ok k), i49B_ok k (par0 k) (par0_ok k), i49B_thr k (par0 k) (par0_ok k), i50B_ok k (par0 k) (par0_ok k), i50B_thr k (par0 k) (par0_ok k), i51B_ok k (par0 k) (par0_ok k), i51B_thr k (par0 k) (par0_ok k), i52B_ok k (par0 k) (par0_ok k), i52B_thr k (par0 k) (par0_ok k)⟩
def i5 (k : Nat) : Ti5 := (par0 k).i5
theorem i5_ok (k : Nat) : Pi5 (i5 k) := (par0_ok k).i5_ok
theorem i5_thr (k : Nat) : Qi5 (i5 k) := (par0_ok k).i5_thr
def i6 (k : Nat) : Ti6 := (par0 k).i6
theorem i6_ok (k : Nat) : Pi6 (i6 k) := (par0_ok k).i6_ok
theorem i6_thr (k : Nat) : Qi6 (i6 k) := (par0_ok k).i6_thr
def i8 (k : Nat) : Ti8 := (par0 k).i8
theorem i8_ok (k : Nat) : Pi8 (i8 k) := (par0_ok k).i8_ok
theorem i8_thr (k : Nat) : Qi8 (i8 k) := (par0_ok k).i8_thr
def i13 (k : Nat) : Ti13 := (par0 k).i13
theorem i13_ok (k : Nat) : Pi13 (i13 k) := (par0_ok k).i13_ok
theorem i13_thr (k : Nat) : Qi13 (i13 k) := (par0_ok k).i13_thr
def i14 (k : Nat) : Ti14 := (par0 k).i14
theorem i14_ok (k : Nat) : Pi14 (i14 k) := (par0_ok k).i14_ok
theorem i14_thr (k : Nat) : Qi14 (i14 k) := (par0_ok k).i14_thr
def i17 (k : Nat) : Ti17 := (par0 k).i17
theorem i17_ok (k : Nat) : Pi17 (i17 k) := (par0_ok k).i17_ok
theorem i17_thr (k : Nat) : Qi17 (i17 k) := (par0_ok k).i17_thr
def i18 (k : Nat) : Ti18 := (par0 k).i18
theorem i18_ok (k : Nat) : Pi18 (i18 k) := (par0_ok k).i18_ok
theorem i18_thr (k : Nat) : Qi18 (i18 k) := (par0_ok k).i18_thr
def i19 (k : Nat) : Ti19 := (par0 k).i19
theorem i19_ok (k : Nat) : Pi19 (i19 k) := (par0_ok k).i19_ok
theorem i19_thr (k : Nat) : Qi19 (i19 k) := (par0_ok k).i19_thr
def i20 (k : Nat) : Ti20 := (par0 k).i20
theorem i20_ok (k : Nat) : Pi20 (i20 k) := (par0_ok k).i20_ok
theorem i20_thr (k : Nat) : Qi20 (i20 k) := (par0_ok k).i20_thr
def i21 (k : Nat) : Ti21 := (par0 k).i21
theorem i21_ok (k : Nat) : Pi21 (i21 k) := (par0_ok k).i21_ok
theorem i21_thr (k : Nat) : Qi21 (i21 k) := (par0_ok k).i21_thr
def i24 (k : Nat) : Ti24 := (par0 k).i24
theorem i24_ok (k : Nat) : Pi24 (i24 k) := (par0_ok k).i24_ok
theorem i24_thr (k : Nat) : Qi24 (i24 k) := (par0_ok k).i24_thr
def i25 (k : Nat) : Ti25 := (par0 k).i25
theorem i25_ok (k : Nat) : Pi25 (i25 k) := (par0_ok k).i25_ok
theorem i25_thr (k : Nat) : Qi25 (i25 k) := (par0_ok k).i25_thr
def i26 (k : Nat) : Ti26 := (par0 k).i26
theorem i26_ok (k : Nat) : Pi26 (i26 k) := (par0_ok k).i26_ok
theorem i26_thr (k : Nat) : Qi26 (i26 k) := (par0_ok k).i26_thr
def i29 (k : Nat) : Ti29 := (par0 k).i29
theorem i29_ok (k : Nat) : Pi29 (i29 k) := (par0_ok k).i29_ok
theorem i29_thr (k : Nat) : Qi29 (i29 k) := (par0_ok k).i29_thr
def i30 (k : Nat) : Ti30 := (par0 k).i30
theorem i30_ok (k : Nat) : Pi30 (i30 k) := (par0_ok k).i30_ok
theorem i30_thr (k : Nat) : Qi30 (i30 k) := (par0_ok k).i30_thr
def i31 (k : Nat) : Ti31 := (par0 k).i31
theorem i31_ok (k : Nat) : Pi31 (i31 k) := (par0_ok k).i31_ok
theorem i31_thr (k : Nat) : Qi31 (i31 k) := (par0_ok k).i31_thr
def i32 (k : Nat) : Ti32 := (par0 k).i32
theorem i32_ok (k : Nat) : Pi32 (i32 k) := (par0_ok k).i32_ok
theorem i32_thr (k : Nat) : Qi32 (i32 k) := (par0_ok k).i32_thr
def i34 (k : Nat) : Ti34 := (par0 k).i34
theorem i34_ok (k : Nat) : Pi34 (i34 k) := (par0_ok k).i34_ok
theorem i34_thr (k : Nat) : Qi34 (i34 k) := (par0_ok k).i34_thr
def i36 (k : Nat) : Ti36 := (par0 k).i36
theorem i36_ok (k : Nat) : Pi36 (i36 k) := (par0_ok k).i36_ok
theorem i36_thr (k : Nat) : Qi36 (i36 k) := (par0_ok k).i36_thr
def i37 (k : Nat) : Ti37 := (par0 k).i37
theorem i37_ok (k : Nat) : Pi37 (i37 k) := (par0_ok k).i37_ok
theorem i37_thr (k : Nat) : Qi37 (i37 k) := (par0_ok k).i37_thr
def i38 (k : Nat) : Ti38 := (par0 k).i38
theorem i38_ok (k : Nat) : Pi38 (i38 k) := (par0_ok k).i38_ok
theorem i38_thr (k : Nat) : Qi38 (i38 k) := (par0_ok k).i38_thr
def i40 (k : Nat) : Ti40 := (par0 k).i40
theorem i40_ok (k : Nat) : Pi40 (i40 k) := (par0_ok k).i40_ok
theorem i40_thr (k : Nat) : Qi40 (i40 k) := (par0_ok k).i40_thr
def i41 (k : Nat) : Ti41 := (par0 k).i41
theorem i41_ok (k : Nat) : Pi41 (i41 k) := (par0_ok k).i41_ok
theorem i41_thr (k : Nat) : Qi41 (i41 k) := (par0_ok k).i41_thr
def i42 (k : Nat) : Ti42 := (par0 k).i42
theorem i42_ok (k : Nat) : Pi42 (i42 k) := (par0_ok k).i42_ok
theorem i42_thr (k : Nat) : Qi42 (i42 k) := (par0_ok k).i42_thr
def i43 (k : Nat) : Ti43 := (par0 k).i43
theorem i43_ok (k : Nat) : Pi43 (i43 k) := (par0_ok k).i43_ok
theorem i43_thr (k : Nat) : Qi43 (i43 k) := (par0_ok k).i43_thr
def i44 (k : Nat) : Ti44 := (par0 k).i44
theorem i44_ok (k : Nat) : Pi44 (i44 k) := (par0_ok k).i44_ok
theorem i44_thr (k : Nat) : Qi44 (i44 k) := (par0_ok k).i44_thr
def i45 (k : Nat) : Ti45 := (par0 k).i45
theorem i45_ok (k : Nat) : Pi45 (i45 k) := (par0_ok k).i45_ok
theorem i45_thr (k : Nat) : Qi45 (i45 k) := (par0_ok k).i45_thr
def i46 (k : Nat) : Ti46 := (par0 k).i46
theorem i46_ok (k : Nat) : Pi46 (i46 k) := (par0_ok k).i46_ok
theorem i46_thr (k : Nat) : Qi46 (i46 k) := (par0_ok k).i46_thr
def i47 (k : Nat) : Ti47 := (par0 k).i47
theorem i47_ok (k : Nat) : Pi47 (i47 k) := (par0_ok k).i47_ok
theorem i47_thr (k : Nat) : Qi47 (i47 k) := (par0_ok k).i47_thr
def i48 (k : Nat) : Ti48 := (par0 k).i48
theorem i48_ok (k : Nat) : Pi48 (i48 k) := (par0_ok k).i48_ok
theorem i48_thr (k : Nat) : Qi48 (i48 k) := (par0_ok k).i48_thr
def i49 (k : Nat) : Ti49 := (par0 k).i49
theorem i49_ok (k : Nat) : Pi49 (i49 k) := (par0_ok k).i49_ok
theorem i49_thr (k : Nat) : Qi49 (i49 k) := (par0_ok k).i49_thr
def i50 (k : Nat) : Ti50 := (par0 k).i50
theorem i50_ok (k : Nat) : Pi50 (i50 k) := (par0_ok k).i50_ok
theorem i50_thr (k : Nat) : Qi50 (i50 k) := (par0_ok k).i50_thr
def i51 (k : Nat) : Ti51 := (par0 k).i51
theorem i51_ok (k : Nat) : Pi51 (i51 k) := (par0_ok k).i51_ok
theorem i51_thr (k : Nat) : Qi51 (i51 k) := (par0_ok k).i51_thr
def i52 (k : Nat) : Ti52 := (par0 k).i52
theorem i52_ok (k : Nat) : Pi52 (i52 k) := (par0_ok k).i52_ok
theorem i52_thr (k : Nat) : Qi52 (i52 k) := (par0_ok k).i52_thr
end
end Go.Proofs.Ythpplbkobokghaa.Am
set_option maxRecDepth 100000
set_option linter.unusedVariables false
namespace Go.Proofs.Ythpplbkobokghaa.Am
noncomputable section
open Go
abbrev Ri3 : Type := (Int × Int × (List Nat) × Raw × Bool × Bool × (List (List Nat)) × (List (List Nat)))
abbrev Ti3 : Type := Int → Int → (List Nat) → Raw → Bool → Bool → (List (List Nat)) → (List (List Nat)) → (List Nat) → (List S33) → Int → Int → Option (Option Ri3)
def Pi3 (f : Ti3) : Prop := ∀ (a0 : Int) (a1 : Int) (a2 : (List Nat)) (a3 : Raw) (a4 : Bool) (a5 : Bool) (a6 : (List (List Nat))) (a7 : (List (List Nat))) (a8 : (List Nat)) (a9 : (List S33)) (a10 : Int) (a11 : Int), ∀ (x : Ri3), f a0 a1 a2 a3 a4 a5 a6 a7 a8 a9 a10 a11 = some (some x) → CallT Try.prog 28 [.ptr 2 4 0, .ptr 0 1 0, .ptr 1 7 0] (mkH [⟨[.i a0], 1, false⟩, ⟨[.i a1, .str a2, q29 a3, .bool a4, .bool a5, w9 a6, w9 a7], 7, false⟩, ⟨[.str a8, w34 a9, .i a10, .i a11], 4, false⟩]) none (.tuple []) (mkH [⟨[.i a0], 1, false⟩, ⟨[.i x.1, .str x.2.2.1, q29 x.2.2.2.1, .bool x.2.2.2.2.1, .bool x.2.2.2.2.2.1, w9 x.2.2.2.2.2.2.1, w9 x.2.2.2.2.2.2.2], 7, false⟩, ⟨[.str a8, w34 a9, .i x.2.1, .i a11], 4, false⟩])
def Qi3 (f : Ti3) : Prop := ∀ (a0 : Int) (a1 : Int) (a2 : (List Nat)) (a3 : Raw) (a4 : Bool) (a5 : Bool) (a6 : (List (List Nat))) (a7 : (List (List Nat))) (a8 : (List Nat)) (a9 : (List S33)) (a10 : Int) (a11 : Int) (_h : f a0 a1 a2 a3 a4 a5 a6 a7 a8 a9 a10 a11 = some none), ∃ v, CallT Try.prog 28 [.ptr 2 4 0, .ptr 0 1 0, .ptr 1 7 0] (mkH [⟨[.i a0], 1, false⟩, ⟨[.i a1, .str a2, q29 a3, .bool a4, .bool a5, w9 a6, w9 a7], 7, false⟩, ⟨[.str a8, w34 a9, .i a10, .i a11], 4, false⟩]) (some (thrown, [2])) v (mkH [⟨[.i a0], 1, false⟩, ⟨[.i a1, .str a2, q29 a3, .bool a4, .bool a5, w9 a6, w9 a7], 7, false⟩, ⟨[.str a8, w34 a9, .i a10, .i a11], 4, false⟩])
def Xi3 (a0 : Int) (a1 : Int) (a2 : (List Nat)) (a3 : Raw) (a4 : Bool) (a5 : Bool) (a6 : (List (List Nat))) (a7 : (List (List Nat))) (a8 : (List Nat)) (a9 : (List S33)) (a10 : Int) (a11 : Int) : Fx (Option Ri3) := ⟨Try.prog, cx, Try.f28, fun r => match r with | some r => .tuple [] | none => .top, 3, fun r => match r with | some r => (mkH [⟨[.i a0], 1, false⟩, ⟨[.i r.1, .str r.2.2.1, q29 r.2.2.2.1, .bool r.2.2.2.2.1, .bool r.2.2.2.2.2.1, w9 r.2.2.2.2.2.2.1, w9 r.2.2.2.2.2.2.2], 7, false⟩, ⟨[.str a8, w34 a9, .i r.2.1, .i a11], 4, false⟩]) | none => (mkH [⟨[.i a0], 1, false⟩, ⟨[.i a1, .str a2, q29 a3, .bool a4, .bool a5, w9 a6, w9 a7], 7, false⟩, ⟨[.str a8, w34 a9, .i a10, .i a11], 4, false⟩]), cxTi, cxOrd, fun r => match r with | some _ => none | none => some (thrown, [2]), false⟩
def i3p0 : Pt := nav [] (bodyAt Try.f28)
def i3 (k : Nat) (a0 : Int) (a1 : Int) (a2 : (List Nat)) (a3 : Raw) (a4 : Bool) (a5 : Bool) (a6 : (List (List Nat))) (a7 : (List (List Nat))) (a8 : (List Nat)) (a9 : (List S33)) (a10 : Int) (a11 : Int) : Option (Option Ri3) :=
 bT (i5 k a0 a8 a9 a10 a11) fun x0_2 => some (some (x0_2.1.f0, x0_2.2, x0_2.1.f1, x0_2.1.f2, x0_2.1.f3, x0_2.1.f4, x0_2.1.f5, x0_2.1.f6))
theorem i3_all (k : Nat) (a0 : Int) (a1 : Int) (a2 : (List Nat)) (a3 : Raw) (a4 : Bool) (a5 : Bool) (a6 : (List (List Nat))) (a7 : (List (List Nat))) (a8 : (List Nat)) (a9 : (List S33)) (a10 : Int) (a11 : Int) (r : (Option Ri3)) (h : i3 k a0 a1 a2 a3 a4 a5 a6 a7 a8 a9 a10 a11 = some r) : CallT Try.prog 28 [.ptr 2 4 0, .ptr 0 1 0, .ptr 1 7 0] (mkH [⟨[.i a0], 1, false⟩, ⟨[.i a1, .str a2, q29 a3, .bool a4, .bool a5, w9 a6, w9 a7], 7, false⟩, ⟨[.str a8, w34 a9, .i a10, .i a11], 4, false⟩]) ((Xi3 a0 a1 a2 a3 a4 a5 a6 a7 a8 a9 a10 a11).thr r) ((Xi3 a0 a1 a2 a3 a4 a5 a6 a7 a8 a9 a10 a11).enc r) ((Xi3 a0 a1 a2 a3 a4 a5 a6 a7 a8 a9 a10 a11).fin r) := by
 refine callM_of (Xi3 a0 a1 a2 a3 a4 a5 a6 a7 a8 a9 a10 a11) Try.func28 (by kernel_rfl) (by kernel_rfl) rfl (t := i3 k a0 a1 a2 a3 a4 a5 a6 a7 a8 a9 a10 a11) ?_ h
 unfold i3
 refine ok_env (eE := [(0, .ptr 2 4 0), (1, .ptr 0 1 0), (2, .ptr 1 7 0)]) (by kernel_rfl) ?_
 let Q1 : Blk := ⟨[.i a1, .str a2, q29 a3, .bool a4, .bool a5, w9 a6, w9 a7], 7, false⟩
 refine oH 3 (atN 2 (ctl1 i3p0)) [(5, .i a0), (4, .ptr 2 4 0), (0, .ptr 2 4 0), (1, .ptr 0 1 0), (2, .ptr 1 7 0)] (mkH [⟨[.i a0], 1, false⟩, Q1, ⟨[.str a8, w34 a9, .i a10, .i a11], 4, false⟩]) ?_
 refine oX (fun (x0_2 : (S28 × Int)) => n29 x0_2.1) (fun x0_2 => [⟨[.i a0], 1, false⟩, Q1, ⟨[.str a8, w34 a9, .i x0_2.2, .i a11], 4, false⟩]) (atN 3 (ctl1 i3p0)) 6 [2] [] [] [2] [] [.ptr 2 4 0, .i a0] (i5_thr k a0 a8 a9 a10 a11) (i5_ok k a0 a8 a9 a10 a11) trivial (fun _ => trivial) trivial fun x0_2 hx0_2 => ?_
 exact oQF 2 [⟨[.i a0], 1, false⟩, ⟨e29 x0_2.1, 7, false⟩, ⟨[.str a8, w34 a9, .i x0_2.2, .i a11], 4, false⟩] 3 [] [] (.tuple []) .ps trivial
theorem i3_ok (k : Nat) : Pi3 (i3 k) := fun a0 a1 a2 a3 a4 a5 a6 a7 a8 a9 a10 a11 x h => i3_all k a0 a1 a2 a3 a4 a5 a6 a7 a8 a9 a10 a11 (some x) h
theorem i3_thr (k : Nat) : Qi3 (i3 k) := fun a0 a1 a2 a3 a4 a5 a6 a7 a8 a9 a10 a11 h => ⟨_, i3_all k a0 a1 a2 a3 a4 a5 a6 a7 a8 a9 a10 a11 none h⟩
end
end Go.Proofs.Ythpplbkobokghaa.Am
set_option maxRecDepth 100000
set_option linter.unusedVariables false
namespace Go.Proofs.Ythpplbkobokghaa.Am
noncomputable section
open Go
abbrev Ri0 : Type := (Int × Int × (List (List Nat)) × (List (List Nat)) × Int × (List Nat) × Raw × Bool × Bool)
abbrev Ti0 : Type := (List Nat) → (List S33) → Int → Int → Int → Int → (List Nat) → Raw → Bool → Bool → (List (List Nat)) → (List (List Nat)) → Option Ri0
def Pi0 (f : Ti0) : Prop := ∀ (a0 : (List Nat)) (a1 : (List S33)) (a2 : Int) (a3 : Int) (a4 : Int) (a5 : Int) (a6 : (List Nat)) (a7 : Raw) (a8 : Bool) (a9 : Bool) (a10 : (List (List Nat))) (a11 : (List (List Nat))), ∀ (x : Ri0), f a0 a1 a2 a3 a4 a5 a6 a7 a8 a9 a10 a11 = some x → CallT Try.prog 27 [.str a0, w34 a1, .i a2, .i a3, .func 28 [] [.ptr 0 1 0, .ptr 1 7 0]] (mkH [⟨[.i a4], 1, false⟩, ⟨[.i a5, .str a6, q29 a7, .bool a8, .bool a9, w9 a10, w9 a11], 7, false⟩]) none (.tuple [.i x.1, .i x.2.1]) (mkH [⟨[.i a4], 1, false⟩, ⟨[.i x.2.2.2.2.1, .str x.2.2.2.2.2.1, q29 x.2.2.2.2.2.2.1, .bool x.2.2.2.2.2.2.2.1, .bool x.2.2.2.2.2.2.2.2, w9 x.2.2.1, w9 x.2.2.2.1], 7, false⟩])
def Xi0 (a0 : (List Nat)) (a1 : (List S33)) (a2 : Int) (a3 : Int) (a4 : Int) (a5 : Int) (a6 : (List Nat)) (a7 : Raw) (a8 : Bool) (a9 : Bool) (a10 : (List (List Nat))) (a11 : (List (List Nat))) : Fx Ri0 := ⟨Try.prog, cx, Try.f27, fun r => .tuple [.i r.1, .i r.2.1], 2, fun r => (mkH [⟨[.i a4], 1, false⟩, ⟨[.i r.2.2.2.2.1, .str r.2.2.2.2.2.1, q29 r.2.2.2.2.2.2.1, .bool r.2.2.2.2.2.2.2.1, .bool r.2.2.2.2.2.2.2.2, w9 r.2.2.1, w9 r.2.2.2.1], 7, false⟩]), cxTi, cxOrd, fun _ => none, true⟩
def i0p0 : Pt := nav [0] (bodyAt Try.f27)
def i0p1 : Pt := nav [0, 0, 0, 0] i0p0
def i0p2 : Pt := nav [0, 0] i0p1
def i0p4 : Pt := nav [2, 0, 0] i0p2
def i0p6 : Pt := nav [0, 0, 0] i0p4
def i0p7 : Pt := nav [0, 0, 0] i0p6
def i0d27p0 : Pt := nav [0] (restAt Try.f46)
def i0d27p1 : Pt := nav [0, 0] i0d27p0
def i0d27p2 : Pt := nav [1, 0, 0] i0d27p1
def i0d27p4 : Pt := nav [0, 0, 0] i0d27p2
def i0 (k : Nat) (a0 : (List Nat)) (a1 : (List S33)) (a2 : Int) (a3 : Int) (a4 : Int) (a5 : Int) (a6 : (List Nat)) (a7 : Raw) (a8 : Bool) (a9 : Bool) (a10 : (List (List Nat))) (a11 : (List (List Nat))) : Option Ri0 :=
 jn (fun (z1 : Bool) => if z1 then (some ((0 : Int), (8 : Int), a10, a11, a5, a6, a7, a8, a9)) else (cT (i3 k a4 a5 a6 a7 a8 a9 a10 a11 a0 a1 a2 a3) (some ((0 : Int), (8 : Int), a10, a11, a5, a6, a7, a8, a9)) fun x0_2 => some (x0_2.2.1, (0 : Int), x0_2.2.2.2.2.2.2.1, x0_2.2.2.2.2.2.2.2, x0_2.1, x0_2.2.2.1, x0_2.2.2.2.1, x0_2.2.2.2.2.1, x0_2.2.2.2.2.2.1))) (fun j1 => if (decide (a2 < 0)) then (j1 true) else (if (decide ((a1.length : Int) < a3)) then (j1 true) else (j1 (decide (a3 < a2)))))
theorem i0_all (k : Nat) (a0 : (List Nat)) (a1 : (List S33)) (a2 : Int) (a3 : Int) (a4 : Int) (a5 : Int) (a6 : (List Nat)) (a7 : Raw) (a8 : Bool) (a9 : Bool) (a10 : (List (List Nat))) (a11 : (List (List Nat))) (r : Ri0) (h : i0 k a0 a1 a2 a3 a4 a5 a6 a7 a8 a9 a10 a11 = some r) : CallT Try.prog 27 [.str a0, w34 a1, .i a2, .i a3, .func 28 [] [.ptr 0 1 0, .ptr 1 7 0]] (mkH [⟨[.i a4], 1, false⟩, ⟨[.i a5, .str a6, q29 a7, .bool a8, .bool a9, w9 a10, w9 a11], 7, false⟩]) ((Xi0 a0 a1 a2 a3 a4 a5 a6 a7 a8 a9 a10 a11).thr r) ((Xi0 a0 a1 a2 a3 a4 a5 a6 a7 a8 a9 a10 a11).enc r) ((Xi0 a0 a1 a2 a3 a4 a5 a6 a7 a8 a9 a10 a11).fin r) := by
 refine callM_of (Xi0 a0 a1 a2 a3 a4 a5 a6 a7 a8 a9 a10 a11) Try.func27 (by kernel_rfl) (by kernel_rfl) rfl (t := i0 k a0 a1 a2 a3 a4 a5 a6 a7 a8 a9 a10 a11) ?_ h
 unfold i0
 refine ok_env (eE := [(0, .str a0), (1, w34 a1), (2, .i a2), (3, .i a3), (4, .func 28 [] [.ptr 0 1 0, .ptr 1 7 0])]) (by kernel_rfl) ?_
 let E1 : Env := [(15, .bool (decide (a2 < 0))), (14, .bool (decide (a2 < 0))), (13, .i a2), (11, .ptr 3 1 0), (10, .ptr 2 1 0), (0, .str a0), (1, w34 a1), (2, .i a2), (3, .i a3), (4, .func 28 [] [.ptr 0 1 0, .ptr 1 7 0])]
 let Q1 : Blk := ⟨[.i a5, .str a6, q29 a7, .bool a8, .bool a9, w9 a10, w9 a11], 7, false⟩
 let K1 : List Blk := [⟨[.i a4], 1, false⟩, Q1, ⟨[.i 0], 0, false⟩, ⟨[.i 0], 0, false⟩]
 refine oH 11 (atN 3 (ctl1 i0p1)) E1 (mkH K1) ?_
 refine oJ i0p2 (fun (z1 : Bool) => [(0, .str a0), (1, w34 a1), (2, .i a2), (3, .i a3), (4, .func 28 [] [.ptr 0 1 0, .ptr 1 7 0]), (10, .ptr 2 1 0), (11, .ptr 3 1 0), (25, .bool z1)]) (fun (z1 : Bool) => (mkH K1)) (fun z1 => ?_) (fun j1 hj1 => ?_)
 ·refine oS 25 (fun hb => ?_) (fun hb => ?_)
  ·let E2 : Env := [(25, .bool true), (0, .str a0), (1, w34 a1), (2, .i a2), (3, .i a3), (4, .func 28 [] [.ptr 0 1 0, .ptr 1 7 0]), (10, .ptr 2 1 0), (11, .ptr 3 1 0), (25, .bool z1)]
   exact oQF 7 [⟨[.i a4], 1, false⟩, Q1, ⟨[.i 0], 1, false⟩, ⟨[.i 8], 1, false⟩] 2 [] [.i 0, .i 8] (.tuple [.i 0, .i 8]) .ps trivial
  ·let E4 : Env := [(4, .func 28 [] [.ptr 0 1 0, .ptr 1 7 0]), (10, .ptr 2 1 0), (11, .ptr 3 1 0), (12, .ptr 4 4 0)]
   let K2 : List Blk := [⟨[.i a4], 1, false⟩, Q1, ⟨[.i 0], 0, false⟩, ⟨[.i 0], 0, false⟩, ⟨[.str a0, w34 a1, .i a2, .i a3], 0, false⟩]
   refine oLH 13 i0p6 E4 (mkH K2) ?_
   refine oR 2 (atN 1 (ctl1 i0p6)) ((32, .func 46 [] [.ptr 2 1 0, .ptr 3 1 0]) :: E4) ?_
   refine ok_defer (f := 46) (caps := [.ptr 2 1 0, .ptr 3 1 0]) (by kernel_rfl) ?_
   refine okD_at (p' := (atN 2 (ctl1 i0p6))) (by kernel_rfl) ?_
   refine okD_run 5 (p' := (atN 2 (ctl1 i0p7))) (eE := ((34, .ptr 4 4 0) :: (33, .func 28 [] [.ptr 0 1 0, .ptr 1 7 0]) :: (32, .func 46 [] [.ptr 2 1 0, .ptr 3 1 0]) :: E4)) (H' := (mkH K2)) (by kernel_rfl) ?_
   let Q3 : Blk := ⟨[.str a0, w34 a1, .i a2, .i a3], 4, false⟩
   let K3 : List Blk := [⟨[.i a4], 1, false⟩, Q1, ⟨[.i 0], 0, false⟩, ⟨[.i 0], 0, false⟩, Q3]
   let K4 : List Blk := [⟨[.i a4], 1, false⟩, Q1, ⟨[.i 0], 1, false⟩, ⟨[.i 8], 1, false⟩, Q3]
   refine okD_call (tv := thrown) (D := [4]) (rc := ((0 : Int), (8 : Int), a10, a11, a5, a6, a7, a8, a9)) (tc := some ((0 : Int), (8 : Int), a10, a11, a5, a6, a7, a8, a9)) (xs := [.i 0, .i 8]) (v := .tuple [.i 0, .i 8]) (fi := 28) (args := [.ptr 4 4 0, .ptr 0 1 0, .ptr 1 7 0]) (fun (x0_2 : Ri3) => .tuple []) (fun (x0_2 : Ri3) => (mkH [⟨[.i a4], 1, false⟩, ⟨[.i x0_2.1, .str x0_2.2.2.1, q29 x0_2.2.2.2.1, .bool x0_2.2.2.2.2.1, .bool x0_2.2.2.2.2.2.1, w9 x0_2.2.2.2.2.2.2.1, w9 x0_2.2.2.2.2.2.2.2], 7, false⟩, ⟨[.i 0], 0, false⟩, ⟨[.i 0], 0, false⟩, ⟨[.str a0, w34 a1, .i x0_2.2.1, .i a3], 4, false⟩])) (atN 3 (ctl1 i0p7)) (fun x0_2 => [(35, .tuple []), (34, .ptr 4 4 0), (33, .func 28 [] [.ptr 0 1 0, .ptr 1 7 0]), (32, .func 46 [] [.ptr 2 1 0, .ptr 3 1 0]), (4, .func 28 [] [.ptr 0 1 0, .ptr 1 7 0]), (10, .ptr 2 1 0), (11, .ptr 3 1 0), (12, .ptr 4 4 0)]) K3 [⟨[.i a4], 1, false⟩, Q1] [⟨[.i 0], 1, false⟩, ⟨[.i 8], 1, false⟩, Q3] [(10, .ptr 2 1 0), (11, .ptr 3 1 0)] [10, 11] 4 rfl rfl (by kernel_rfl) (fun h => frS 0 (M := K3) (rs := [0, 1, 4]) (ms := []) (mv := []) (mm := []) (D := [4]) (xs' := [.ptr 4 4 0, .ptr 0 1 0, .ptr 1 7 0]) (.refl) (i3_thr k a4 a5 a6 a7 a8 a9 a10 a11 a0 a1 a2 a3 h) trivial trivial (by kernel_rfl)) (by kernel_rfl) (by kernel_rfl) (by kernel_rfl) (by kernel_rfl) (defT_of2 (⟨Try.prog, cx, Try.f46, fun _ => .tuple [], 5, fun _ => (mkH K4), cxTi, cxOrd, fun _ => none, false⟩ : Fx Unit) 5 2 (x := .iface 72 (.agg [])) thrown_cat (by kernel_rfl) (by kernel_rfl) (by kernel_rfl) rfl rfl rfl rfl ?_) rfl (by kernel_rfl) (by kernel_rfl) (by kernel_rfl) (.pures (by kernel_rfl)) ⟨(by kernel_rfl), ⟨(by kernel_rfl), trivial⟩⟩ (by kernel_rfl) (by kernel_rfl) (fun x0_2 h => frW 0 K3 (rs := [0, 1, 4]) (ms := []) (ms' := []) (mv := []) (xs' := [.ptr 4 4 0, .ptr 0 1 0, .ptr 1 7 0]) (.refl) (i3_ok k a4 a5 a6 a7 a8 a9 a10 a11 a0 a1 a2 a3 x0_2 h) trivial trivial (by kernel_rfl)) (fun _ => by kernel_rfl) (fun x0_2 hx0_2 => ?_)
   ·refine oE [(2, .iface 72 (.agg [])), (5, .iface 72 (.agg [])), (0, .ptr 2 1 0), (1, .ptr 3 1 0)] ?_
    let E1 : Env := [(4, .bool true), (3, .ptr 5 0 0), (12, .bool true), (11, .agg []), (8, .tuple [.agg [], .bool true]), (10, .tuple [.agg [], .bool true]), (9, .iface 72 (.agg [])), (7, .bool true), (6, .iface 72 (.agg [])), (2, .iface 72 (.agg [])), (5, .iface 72 (.agg [])), (0, .ptr 2 1 0), (1, .ptr 3 1 0)]
    let E2 : Env := [(0, .ptr 2 1 0), (1, .ptr 3 1 0), (2, .iface 72 (.agg [])), (4, .bool true)]
    refine oLH 19 i0d27p4 E2 (mkH [⟨[.i a4], 1, false⟩, Q1, ⟨[.i 0], 0, false⟩, ⟨[.i 0], 0, false⟩, Q3, ⟨[], 0, false⟩]) ?_
    refine oH 10 .fin ((14, .bool false) :: (13, .bool true) :: E2) (mkH [⟨[.i a4], 1, false⟩, Q1, ⟨[.i 0], 1, false⟩, ⟨[.i 8], 1, false⟩, Q3, ⟨[], 0, false⟩]) ?_
    refine ok_cut K4 [⟨[], 0, false⟩] (by kernel_rfl) rfl (by kernel_rfl) ⟨(by kernel_rfl), ⟨(by kernel_rfl), ⟨(by kernel_rfl), ⟨(by kernel_rfl), ⟨(by kernel_rfl), trivial⟩⟩⟩⟩⟩ ?_
    exact ok_retO (r := ()) (xs := []) (by kernel_rfl) (by kernel_rfl) (by kernel_rfl) (by kernel_rfl)
   ·let Q4 : Blk := ⟨[.i x0_2.1, .str x0_2.2.2.1, q29 x0_2.2.2.2.1, .bool x0_2.2.2.2.2.1, .bool x0_2.2.2.2.2.2.1, w9 x0_2.2.2.2.2.2.2.1, w9 x0_2.2.2.2.2.2.2.2], 7, false⟩
    let Q5 : Blk := ⟨[.i x0_2.2.1], 1, false⟩
    let Q6 : Blk := ⟨[.str a0, w34 a1, .i x0_2.2.1, .i a3], 4, false⟩
    let K5 : List Blk := [⟨[.i a4], 1, false⟩, Q4, Q5, ⟨[.i 0], 1, false⟩, Q6]
    refine okD_run 11 (p' := .fin) (eE := ((39, .i x0_2.2.1) :: (38, .ptr 4 4 2) :: (37, .ptr 4 4 0) :: (36, .ptr 4 4 0) :: (35, .tuple []) :: (34, .ptr 4 4 0) :: (33, .func 28 [] [.ptr 0 1 0, .ptr 1 7 0]) :: (32, .func 46 [] [.ptr 2 1 0, .ptr 3 1 0]) :: E4)) (H' := (mkH K5)) (by kernel_rfl) ?_
    refine okD_ret (r := (x0_2.2.1, (0 : Int), x0_2.2.2.2.2.2.2.1, x0_2.2.2.2.2.2.2.2, x0_2.1, x0_2.2.2.1, x0_2.2.2.2.1, x0_2.2.2.2.2.1, x0_2.2.2.2.2.2.1)) (xs := [.i x0_2.2.1, .i 0]) (v := .tuple [.i x0_2.2.1, .i 0]) K5 [⟨[.i a4], 1, false⟩, Q4] [Q5, ⟨[.i 0], 1, false⟩, Q6] rfl rfl (defT_of2 (⟨Try.prog, cx, Try.f46, fun _ => .tuple [], 5, fun _ => (mkH K5), cxTi, cxOrd, fun _ => none, false⟩ : Fx Unit) 5 2 (x := .nili) none_cat (by kernel_rfl) (by kernel_rfl) (by kernel_rfl) rfl rfl rfl rfl ?_) (by kernel_rfl) (by kernel_rfl) (by kernel_rfl) (by kernel_rfl) (.pures (by kernel_rfl)) ⟨(by kernel_rfl), ⟨(by kernel_rfl), trivial⟩⟩ (by kernel_rfl) (by kernel_rfl)
    let E1 : Env := [(7, .bool false), (6, .nili), (2, .nili), (5, .nili), (0, .ptr 2 1 0), (1, .ptr 3 1 0)]
    refine oH 7 .fin E1 (mkH K5) ?_
    exact ok_retO (r := ()) (xs := []) (by kernel_rfl) (by kernel_rfl) (by kernel_rfl) (by kernel_rfl)
 ·refine oS 15 (fun hb => ?_) (fun hb => ?_)
  ·refine oLH 11 i0p2 [(0, .str a0), (1, w34 a1), (2, .i a2), (3, .i a3), (4, .func 28 [] [.ptr 0 1 0, .ptr 1 7 0]), (10, .ptr 2 1 0), (11, .ptr 3 1 0), (25, .bool true)] (mkH K1) ?_
   exact hj1 true
  ·let E8 : Env := ((21, .bool (decide ((a1.length : Int) < a3))) :: (20, .bool (decide ((a1.length : Int) < a3))) :: (19, .bool (decide ((a1.length : Int) < a3))) :: (18, .i (a1.length : Int)) :: (17, w34 a1) :: (16, .i a3) :: (15, .bool false) :: E1)
   refine oH 6 (atN 9 (ctl1 i0p1)) E8 (mkH K1) ?_
   refine oS 21 (fun hb => ?_) (fun hb => ?_)
   ·refine oR 5 i0p2 ((25, .bool true) :: (24, .tuple []) :: (23, .tuple []) :: (22, .tuple []) :: (21, .bool true) :: E8) ?_
    refine oK [0, 1, 2, 3, 4, 10, 11, 25] [(0, .str a0), (1, w34 a1), (2, .i a2), (3, .i a3), (4, .func 28 [] [.ptr 0 1 0, .ptr 1 7 0]), (10, .ptr 2 1 0), (11, .ptr 3 1 0), (25, .bool true)] ?_
    exact hj1 true
   ·refine oL 5 i0p2 [(0, .str a0), (1, w34 a1), (2, .i a2), (3, .i a3), (4, .func 28 [] [.ptr 0 1 0, .ptr 1 7 0]), (10, .ptr 2 1 0), (11, .ptr 3 1 0), (25, .bool (decide (a3 < a2)))] ?_
    exact hj1 (decide (a3 < a2))
theorem i0_ok (k : Nat) : Pi0 (i0 k) := fun a0 a1 a2 a3 a4 a5 a6 a7 a8 a9 a10 a11 x h => i0_all k a0 a1 a2 a3 a4 a5 a6 a7 a8 a9 a10 a11 x h
end
end Go.Proofs.Ythpplbkobokghaa.Am
set_option maxRecDepth 100000
set_option linter.unusedVariables false
namespace Go.Proofs.Ythpplbkobokghaa.Am
noncomputable section
open Go
def Xg14 : Fx (S28 × Int × Int) := ⟨Try.prog, cx, Try.f14, fun r => .tuple [.agg [.i r.1.f0, .str r.1.f1, q29 r.1.f2, .bool r.1.f3, .bool r.1.f4, w9 r.1.f5, w9 r.1.f6], .i r.2.1, .i r.2.2], 0, fun _ => H0, cxTi, cxOrd, fun _ => none, false⟩
def g14p0 : Pt := nav [0] (bodyAt Try.f14)
def g14p1 : Pt := nav [0, 0, 0] g14p0
def g14p2 : Pt := nav [0, 0, 0] g14p1
def g14p3 : Pt := nav [0, 0, 0] g14p2
def g14 (k : Nat) (a0 : (List Nat)) (a1 : (List S33)) (a2 : Int) (a3 : Int) (a4 : Int) : Option (S28 × Int × Int) :=
 (i0 k a0 a1 a2 a3 a4 (0 : Int) ([] : List Nat) (⟨(([] : List S28)).length, (([] : List S28)).flatMap e29⟩ : Raw) false false ([] : List (List Nat)) ([] : List (List Nat))).bind fun x0_5 => (g30 k (⟨x0_5.2.2.2.2.1, x0_5.2.2.2.2.2.1, x0_5.2.2.2.2.2.2.1, x0_5.2.2.2.2.2.2.2.1, x0_5.2.2.2.2.2.2.2.2, x0_5.2.2.1, x0_5.2.2.2.1⟩ : S28) x0_5.2.1).bind fun x1_2 => some ((⟨x1_2.f0, x1_2.f1, x1_2.f2, x1_2.f3, x1_2.f4, x1_2.f5, x1_2.f6⟩ : S28), x0_5.1, x0_5.2.1)
theorem g14_ok (k : Nat) (a0 : (List Nat)) (a1 : (List S33)) (a2 : Int) (a3 : Int) (a4 : Int) (r : (S28 × Int × Int)) (h : g14 k a0 a1 a2 a3 a4 = some r) : PureOk Try.prog 14 [.str a0, w34 a1, .i a2, .i a3, .i a4] (.tuple [.agg [.i r.1.f0, .str r.1.f1, q29 r.1.f2, .bool r.1.f3, .bool r.1.f4, w9 r.1.f5, w9 r.1.f6], .i r.2.1, .i r.2.2]) := by
 refine pure_of Xg14 (fun _ => ⟨rfl, rfl⟩) Try.func14 (by decide +kernel) (by kernel_rfl) (t := g14 k a0 a1 a2 a3 a4) ?_ h
 unfold g14
 refine ok_env (eE := [(0, .str a0), (1, w34 a1), (2, .i a2), (3, .i a3), (4, .i a4)]) (by kernel_rfl) ?_
 let E1 : Env := [(13, .ptr 2 7 0), (12, .i 0), (11, .i 0), (10, .ptr 1 7 0), (9, .ptr 0 1 0), (0, .str a0), (1, w34 a1), (2, .i a2), (3, .i a3), (4, .i a4)]
 let Q1 : Blk := ⟨[.i 0, .str [], .nils, .bool false, .bool false, .nils, .nils], 0, false⟩
 refine oH 12 g14p2 E1 (mkH [⟨[.i a4], 0, false⟩, Q1, Q1]) ?_
 refine ok_wkH [⟨[.i a4], 0, false⟩, Q1, Q1] 2 0 [.i 0, .str [], .nils, .bool false, .bool false, .nils, .nils] [.i 0, .str [], w29 ([] : List S28), .bool false, .bool false, w9 ([] : List (List Nat)), w9 ([] : List (List Nat))] (by kernel_rfl) rfl (.cons (.cons (.nil (.cons (.cons (.nil (.nil (.refl)))))))) ?_
 let E2 : Env := ((21, .func 28 [] [.ptr 0 1 0, .ptr 2 7 0]) :: (20, .i a3) :: (19, .i a2) :: (18, w34 a1) :: (17, .str a0) :: E1)
 refine oH 6 (atN 5 (ctl1 g14p2)) E2 (mkH [⟨[.i a4], 0, false⟩, Q1, ⟨[.i 0, .str [], w29 ([] : List S28), .bool false, .bool false, w9 ([] : List (List Nat)), w9 ([] : List (List Nat))], 0, false⟩]) ?_
 refine ok_callN (fun (x0_5 : Ri0) => .tuple [.i x0_5.1, .i x0_5.2.1]) (fun (x0_5 : Ri0) => (mkH [⟨[.i a4], 1, false⟩, Q1, ⟨[.i x0_5.2.2.2.2.1, .str x0_5.2.2.2.2.2.1, q29 x0_5.2.2.2.2.2.2.1, .bool x0_5.2.2.2.2.2.2.2.1, .bool x0_5.2.2.2.2.2.2.2.2, w9 x0_5.2.2.1, w9 x0_5.2.2.2.1], 7, false⟩])) (atN 6 (ctl1 g14p2)) (fun x0_5 => ((22, .tuple [.i x0_5.1, .i x0_5.2.1]) :: E2)) (fi := 27) (args := [.str a0, w34 a1, .i a2, .i a3, .func 28 [] [.ptr 0 1 0, .ptr 2 7 0]]) (by kernel_rfl) (fun x0_5 h => frW 0 [⟨[.i a4], 1, false⟩, Q1, ⟨[.i 0, .str [], w29 ([] : List S28), .bool false, .bool false, w9 ([] : List (List Nat)), w9 ([] : List (List Nat))], 7, false⟩] (rs := [0, 2]) (ms := []) (ms' := []) (mv := []) (xs' := [.str a0, w34 a1, .i a2, .i a3, .func 28 [] [.ptr 0 1 0, .ptr 2 7 0]]) (.refl) (i0_ok k a0 a1 a2 a3 a4 (0 : Int) ([] : List Nat) (⟨(([] : List S28)).length, (([] : List S28)).flatMap e29⟩ : Raw) false false ([] : List (List Nat)) ([] : List (List Nat)) x0_5 h) trivial trivial (by kernel_rfl)) (fun _ => by kernel_rfl) (fun x0_5 hx0_5 => ?_)
 let E4 : Env := [(10, .ptr 1 7 0), (13, .ptr 2 7 0), (14, .i x0_5.1), (15, .i x0_5.2.1)]
 refine oLH 7 g14p3 E4 (mkH [⟨[.i a4], 1, false⟩, Q1, ⟨[.i x0_5.2.2.2.2.1, .str x0_5.2.2.2.2.2.1, q29 x0_5.2.2.2.2.2.2.1, .bool x0_5.2.2.2.2.2.2.2.1, .bool x0_5.2.2.2.2.2.2.2.2, w9 x0_5.2.2.1, w9 x0_5.2.2.2.1], 7, false⟩]) ?_
 refine oR 3 (atN 2 (ctl1 g14p3)) ((26, .i x0_5.2.1) :: (25, .agg [.i x0_5.2.2.2.2.1, .str x0_5.2.2.2.2.2.1, q29 x0_5.2.2.2.2.2.2.1, .bool x0_5.2.2.2.2.2.2.2.1, .bool x0_5.2.2.2.2.2.2.2.2, w9 x0_5.2.2.1, w9 x0_5.2.2.2.1]) :: E4) ?_
 refine oA (fun (x1_2 : S28) => n29 x1_2) (atN 3 (ctl1 g14p3)) 27 [.agg [.i x0_5.2.2.2.2.1, .str x0_5.2.2.2.2.2.1, q29 x0_5.2.2.2.2.2.2.1, .bool x0_5.2.2.2.2.2.2.2.1, .bool x0_5.2.2.2.2.2.2.2.2, w9 x0_5.2.2.1, w9 x0_5.2.2.2.1], .i x0_5.2.1] (g30_ok k (⟨x0_5.2.2.2.2.1, x0_5.2.2.2.2.2.1, x0_5.2.2.2.2.2.2.1, x0_5.2.2.2.2.2.2.2.1, x0_5.2.2.2.2.2.2.2.2, x0_5.2.2.1, x0_5.2.2.2.1⟩ : S28) x0_5.2.1) fun x1_2 hx1_2 => ?_
 exact oQ 7
end
end Go.Proofs.Ythpplbkobokghaa.Am
set_option maxRecDepth 100000
set_option linter.unusedVariables false
namespace Go.Proofs.Ythpplbkobokghaa.Am
noncomputable section
open Go
abbrev Ri4 : Type := (Int × (List Nat) × Raw × Bool × Bool × (List (List Nat)) × (List (List Nat)) × Int)
abbrev Ti4 : Type := Int → (List Nat) → Raw → Bool → Bool → (List (List Nat)) → (List (List Nat)) → (List Nat) → (List S33) → Int → Int → Option (Option Ri4)
def Pi4 (f : Ti4) : Prop := ∀ (a0 : Int) (a1 : (List Nat)) (a2 : Raw) (a3 : Bool) (a4 : Bool) (a5 : (List (List Nat))) (a6 : (List (List Nat))) (a7 : (List Nat)) (a8 : (List S33)) (a9 : Int) (a10 : Int), ∀ (x : Ri4), f a0 a1 a2 a3 a4 a5 a6 a7 a8 a9 a10 = some (some x) → CallT Try.prog 34 [.ptr 1 4 0, .ptr 0 7 0] (mkH [⟨[.i a0, .str a1, q29 a2, .bool a3, .bool a4, w9 a5, w9 a6], 7, false⟩, ⟨[.str a7, w34 a8, .i a9, .i a10], 4, false⟩]) none (.tuple []) (mkH [⟨[.i x.1, .str x.2.1, q29 x.2.2.1, .bool x.2.2.2.1, .bool x.2.2.2.2.1, w9 x.2.2.2.2.2.1, w9 x.2.2.2.2.2.2.1], 7, false⟩, ⟨[.str a7, w34 a8, .i x.2.2.2.2.2.2.2, .i a10], 4, false⟩])
def Qi4 (f : Ti4) : Prop := ∀ (a0 : Int) (a1 : (List Nat)) (a2 : Raw) (a3 : Bool) (a4 : Bool) (a5 : (List (List Nat))) (a6 : (List (List Nat))) (a7 : (List Nat)) (a8 : (List S33)) (a9 : Int) (a10 : Int) (_h : f a0 a1 a2 a3 a4 a5 a6 a7 a8 a9 a10 = some none), ∃ v, CallT Try.prog 34 [.ptr 1 4 0, .ptr 0 7 0] (mkH [⟨[.i a0, .str a1, q29 a2, .bool a3, .bool a4, w9 a5, w9 a6], 7, false⟩, ⟨[.str a7, w34 a8, .i a9, .i a10], 4, false⟩]) (some (thrown, [1])) v (mkH [⟨[.i a0, .str a1, q29 a2, .bool a3, .bool a4, w9 a5, w9 a6], 7, false⟩, ⟨[.str a7, w34 a8, .i a9, .i a10], 4, false⟩])
def Xi4 (a0 : Int) (a1 : (List Nat)) (a2 : Raw) (a3 : Bool) (a4 : Bool) (a5 : (List (List Nat))) (a6 : (List (List Nat))) (a7 : (List Nat)) (a8 : (List S33)) (a9 : Int) (a10 : Int) : Fx (Option Ri4) := ⟨Try.prog, cx, Try.f34, fun r => match r with | some r => .tuple [] | none => .top, 2, fun r => match r with | some r => (mkH [⟨[.i r.1, .str r.2.1, q29 r.2.2.1, .bool r.2.2.2.1, .bool r.2.2.2.2.1, w9 r.2.2.2.2.2.1, w9 r.2.2.2.2.2.2.1], 7, false⟩, ⟨[.str a7, w34 a8, .i r.2.2.2.2.2.2.2, .i a10], 4, false⟩]) | none => (mkH [⟨[.i a0, .str a1, q29 a2, .bool a3, .bool a4, w9 a5, w9 a6], 7, false⟩, ⟨[.str a7, w34 a8, .i a9, .i a10], 4, false⟩]), cxTi, cxOrd, fun r => match r with | some _ => none | none => some (thrown, [1]), false⟩
def i4p0 : Pt := nav [] (bodyAt Try.f34)
def i4 (k : Nat) (a0 : Int) (a1 : (List Nat)) (a2 : Raw) (a3 : Bool) (a4 : Bool) (a5 : (List (List Nat))) (a6 : (List (List Nat))) (a7 : (List Nat)) (a8 : (List S33)) (a9 : Int) (a10 : Int) : Option (Option Ri4) :=
 bT (i6 k a7 a8 a9 a10) fun x0_1 => some (some (x0_1.1.f0, x0_1.1.f1, x0_1.1.f2, x0_1.1.f3, x0_1.1.f4, x0_1.1.f5, x0_1.1.f6, x0_1.2))
theorem i4_all (k : Nat) (a0 : Int) (a1 : (List Nat)) (a2 : Raw) (a3 : Bool) (a4 : Bool) (a5 : (List (List Nat))) (a6 : (List (List Nat))) (a7 : (List Nat)) (a8 : (List S33)) (a9 : Int) (a10 : Int) (r : (Option Ri4)) (h : i4 k a0 a1 a2 a3 a4 a5 a6 a7 a8 a9 a10 = some r) : CallT Try.prog 34 [.ptr 1 4 0, .ptr 0 7 0] (mkH [⟨[.i a0, .str a1, q29 a2, .bool a3, .bool a4, w9 a5, w9 a6], 7, false⟩, ⟨[.str a7, w34 a8, .i a9, .i a10], 4, false⟩]) ((Xi4 a0 a1 a2 a3 a4 a5 a6 a7 a8 a9 a10).thr r) ((Xi4 a0 a1 a2 a3 a4 a5 a6 a7 a8 a9 a10).enc r) ((Xi4 a0 a1 a2 a3 a4 a5 a6 a7 a8 a9 a10).fin r) := by
 refine callM_of (Xi4 a0 a1 a2 a3 a4 a5 a6 a7 a8 a9 a10) Try.func34 (by kernel_rfl) (by kernel_rfl) rfl (t := i4 k a0 a1 a2 a3 a4 a5 a6 a7 a8 a9 a10) ?_ h
 unfold i4
 refine ok_env (eE := [(0, .ptr 1 4 0), (1, .ptr 0 7 0)]) (by kernel_rfl) ?_
 let Q1 : Blk := ⟨[.i a0, .str a1, q29 a2, .bool a3, .bool a4, w9 a5, w9 a6], 7, false⟩
 refine oH 2 (atN 1 (ctl1 i4p0)) [(3, .ptr 1 4 0), (0, .ptr 1 4 0), (1, .ptr 0 7 0)] (mkH [Q1, ⟨[.str a7, w34 a8, .i a9, .i a10], 4, false⟩]) ?_
 refine oX (fun (x0_1 : (S28 × Int)) => n29 x0_1.1) (fun x0_1 => [Q1, ⟨[.str a7, w34 a8, .i x0_1.2, .i a10], 4, false⟩]) (atN 2 (ctl1 i4p0)) 4 [1] [] [] [1] [] [.ptr 1 4 0] (i6_thr k a7 a8 a9 a10) (i6_ok k a7 a8 a9 a10) trivial (fun _ => trivial) trivial fun x0_1 hx0_1 => ?_
 exact oQF 2 [⟨e29 x0_1.1, 7, false⟩, ⟨[.str a7, w34 a8, .i x0_1.2, .i a10], 4, false⟩] 2 [] [] (.tuple []) .ps trivial
theorem i4_ok (k : Nat) : Pi4 (i4 k) := fun a0 a1 a2 a3 a4 a5 a6 a7 a8 a9 a10 x h => i4_all k a0 a1 a2 a3 a4 a5 a6 a7 a8 a9 a10 (some x) h
theorem i4_thr (k : Nat) : Qi4 (i4 k) := fun a0 a1 a2 a3 a4 a5 a6 a7 a8 a9 a10 h => ⟨_, i4_all k a0 a1 a2 a3 a4 a5 a6 a7 a8 a9 a10 none h⟩
end
end Go.Proofs.Ythpplbkobokghaa.Am
set_option maxRecDepth 100000
set_option linter.unusedVariables false
namespace Go.Proofs.Ythpplbkobokghaa.Am
noncomputable section
open Go
abbrev Ri1 : Type := (Int × Int × (List (List Nat)) × Int × (List Nat) × Raw × Bool × Bool × (List (List Nat)))
abbrev Ti1 : Type := (List Nat) → (List S33) → Int → Int → Int → (List Nat) → Raw → Bool → Bool → (List (List Nat)) → (List (List Nat)) → Option Ri1
def Pi1 (f : Ti1) : Prop := ∀ (a0 : (List Nat)) (a1 : (List S33)) (a2 : Int) (a3 : Int) (a4 : Int) (a5 : (List Nat)) (a6 : Raw) (a7 : Bool) (a8 : Bool) (a9 : (List (List Nat))) (a10 : (List (List Nat))), ∀ (x : Ri1), f a0 a1 a2 a3 a4 a5 a6 a7 a8 a9 a10 = some x → CallT Try.prog 27 [.str a0, w34 a1, .i a2, .i a3, .func 34 [] [.ptr 0 7 0]] (mkH [⟨[.i a4, .str a5, q29 a6, .bool a7, .bool a8, w9 a9, w9 a10], 7, false⟩]) none (.tuple [.i x.1, .i x.2.1]) (mkH [⟨[.i x.2.2.2.1, .str x.2.2.2.2.1, q29 x.2.2.2.2.2.1, .bool x.2.2.2.2.2.2.1, .bool x.2.2.2.2.2.2.2.1, w9 x.2.2.2.2.2.2.2.2, w9 x.2.2.1], 7, false⟩])
def Xi1 (a0 : (List Nat)) (a1 : (List S33)) (a2 : Int) (a3 : Int) (a4 : Int) (a5 : (List Nat)) (a6 : Raw) (a7 : Bool) (a8 : Bool) (a9 : (List (List Nat))) (a10 : (List (List Nat))) : Fx Ri1 := ⟨Try.prog, cx, Try.f27, fun r => .tuple [.i r.1, .i r.2.1], 1, fun r => (mkH [⟨[.i r.2.2.2.1, .str r.2.2.2.2.1, q29 r.2.2.2.2.2.1, .bool r.2.2.2.2.2.2.1, .bool r.2.2.2.2.2.2.2.1, w9 r.2.2.2.2.2.2.2.2, w9 r.2.2.1], 7, false⟩]), cxTi, cxOrd, fun _ => none, true⟩
def i1p0 : Pt := nav [0] (bodyAt Try.f27)
def i1p1 : Pt := nav [0, 0, 0, 0] i1p0
def i1p2 : Pt := nav [0, 0] i1p1
def i1p4 : Pt := nav [2, 0, 0] i1p2
def i1p6 : Pt := nav [0, 0, 0] i1p4
def i1p7 : Pt := nav [0, 0, 0] i1p6
def i1d27p0 : Pt := nav [0] (restAt Try.f46)
def i1d27p1 : Pt := nav [0, 0] i1d27p0
def i1d27p2 : Pt := nav [1, 0, 0] i1d27p1
def i1d27p4 : Pt := nav [0, 0, 0] i1d27p2
def i1 (k : Nat) (a0 : (List Nat)) (a1 : (List S33)) (a2 : Int) (a3 : Int) (a4 : Int) (a5 : (List Nat)) (a6 : Raw) (a7 : Bool) (a8 : Bool) (a9 : (List (List Nat))) (a10 : (List (List Nat))) : Option Ri1 :=
 jn (fun (z1 : Bool) => if z1 then (some ((0 : Int), (8 : Int), a10, a4, a5, a6, a7, a8, a9)) else (cT (i4 k a4 a5 a6 a7 a8 a9 a10 a0 a1 a2 a3) (some ((0 : Int), (8 : Int), a10, a4, a5, a6, a7, a8, a9)) fun x0_2 => some (x0_2.2.2.2.2.2.2.2, (0 : Int), x0_2.2.2.2.2.2.2.1, x0_2.1, x0_2.2.1, x0_2.2.2.1, x0_2.2.2.2.1, x0_2.2.2.2.2.1, x0_2.2.2.2.2.2.1))) (fun j1 => if (decide (a2 < 0)) then (j1 true) else (if (decide ((a1.length : Int) < a3)) then (j1 true) else (j1 (decide (a3 < a2)))))
theorem i1_all (k : Nat) (a0 : (List Nat)) (a1 : (List S33)) (a2 : Int) (a3 : Int) (a4 : Int) (a5 : (List Nat)) (a6 : Raw) (a7 : Bool) (a8 : Bool) (a9 : (List (List Nat))) (a10 : (List (List Nat))) (r : Ri1) (h : i1 k a0 a1 a2 a3 a4 a5 a6 a7 a8 a9 a10 = some r) : CallT Try.prog 27 [.str a0, w34 a1, .i a2, .i a3, .func 34 [] [.ptr 0 7 0]] (mkH [⟨[.i a4, .str a5, q29 a6, .bool a7, .bool a8, w9 a9, w9 a10], 7, false⟩]) ((Xi1 a0 a1 a2 a3 a4 a5 a6 a7 a8 a9 a10).thr r) ((Xi1 a0 a1 a2 a3 a4 a5 a6 a7 a8 a9 a10).enc r) ((Xi1 a0 a1 a2 a3 a4 a5 a6 a7 a8 a9 a10).fin r) := by
 refine callM_of (Xi1 a0 a1 a2 a3 a4 a5 a6 a7 a8 a9 a10) Try.func27 (by kernel_rfl) (by kernel_rfl) rfl (t := i1 k a0 a1 a2 a3 a4 a5 a6 a7 a8 a9 a10) ?_ h
 unfold i1
 refine ok_env (eE := [(0, .str a0), (1, w34 a1), (2, .i a2), (3, .i a3), (4, .func 34 [] [.ptr 0 7 0])]) (by kernel_rfl) ?_
 let E1 : Env := [(15, .bool (decide (a2 < 0))), (14, .bool (decide (a2 < 0))), (13, .i a2), (11, .ptr 2 1 0), (10, .ptr 1 1 0), (0, .str a0), (1, w34 a1), (2, .i a2), (3, .i a3), (4, .func 34 [] [.ptr 0 7 0])]
 let Q1 : Blk := ⟨[.i a4, .str a5, q29 a6, .bool a7, .bool a8, w9 a9, w9 a10], 7, false⟩
 let K1 : List Blk := [Q1, ⟨[.i 0], 0, false⟩, ⟨[.i 0], 0, false⟩]
 refine oH 11 (atN 3 (ctl1 i1p1)) E1 (mkH K1) ?_
 refine oJ i1p2 (fun (z1 : Bool) => [(0, .str a0), (1, w34 a1), (2, .i a2), (3, .i a3), (4, .func 34 [] [.ptr 0 7 0]), (10, .ptr 1 1 0), (11, .ptr 2 1 0), (25, .bool z1)]) (fun (z1 : Bool) => (mkH K1)) (fun z1 => ?_) (fun j1 hj1 => ?_)
 ·refine oS 25 (fun hb => ?_) (fun hb => ?_)
  ·let E2 : Env := [(25, .bool true), (0, .str a0), (1, w34 a1), (2, .i a2), (3, .i a3), (4, .func 34 [] [.ptr 0 7 0]), (10, .ptr 1 1 0), (11, .ptr 2 1 0), (25, .bool z1)]
   exact oQF 7 [Q1, ⟨[.i 0], 1, false⟩, ⟨[.i 8], 1, false⟩] 1 [] [.i 0, .i 8] (.tuple [.i 0, .i 8]) .ps trivial
  ·let E4 : Env := [(4, .func 34 [] [.ptr 0 7 0]), (10, .ptr 1 1 0), (11, .ptr 2 1 0), (12, .ptr 3 4 0)]
   let K2 : List Blk := [Q1, ⟨[.i 0], 0, false⟩, ⟨[.i 0], 0, false⟩, ⟨[.str a0, w34 a1, .i a2, .i a3], 0, false⟩]
   refine oLH 13 i1p6 E4 (mkH K2) ?_
   refine oR 2 (atN 1 (ctl1 i1p6)) ((32, .func 46 [] [.ptr 1 1 0, .ptr 2 1 0]) :: E4) ?_
   refine ok_defer (f := 46) (caps := [.ptr 1 1 0, .ptr 2 1 0]) (by kernel_rfl) ?_
   refine okD_at (p' := (atN 2 (ctl1 i1p6))) (by kernel_rfl) ?_
   refine okD_run 5 (p' := (atN 2 (ctl1 i1p7))) (eE := ((34, .ptr 3 4 0) :: (33, .func 34 [] [.ptr 0 7 0]) :: (32, .func 46 [] [.ptr 1 1 0, .ptr 2 1 0]) :: E4)) (H' := (mkH K2)) (by kernel_rfl) ?_
   let Q3 : Blk := ⟨[.str a0, w34 a1, .i a2, .i a3], 4, false⟩
   let K3 : List Blk := [Q1, ⟨[.i 0], 0, false⟩, ⟨[.i 0], 0, false⟩, Q3]
   let K4 : List Blk := [Q1, ⟨[.i 0], 1, false⟩, ⟨[.i 8], 1, false⟩, Q3]
   refine okD_call (tv := thrown) (D := [3]) (rc := ((0 : Int), (8 : Int), a10, a4, a5, a6, a7, a8, a9)) (tc := some ((0 : Int), (8 : Int), a10, a4, a5, a6, a7, a8, a9)) (xs := [.i 0, .i 8]) (v := .tuple [.i 0, .i 8]) (fi := 34) (args := [.ptr 3 4 0, .ptr 0 7 0]) (fun (x0_2 : Ri4) => .tuple []) (fun (x0_2 : Ri4) => (mkH [⟨[.i x0_2.1, .str x0_2.2.1, q29 x0_2.2.2.1, .bool x0_2.2.2.2.1, .bool x0_2.2.2.2.2.1, w9 x0_2.2.2.2.2.2.1, w9 x0_2.2.2.2.2.2.2.1], 7, false⟩, ⟨[.i 0], 0, false⟩, ⟨[.i 0], 0, false⟩, ⟨[.str a0, w34 a1, .i x0_2.2.2.2.2.2.2.2, .i a3], 4, false⟩])) (atN 3 (ctl1 i1p7)) (fun x0_2 => [(35, .tuple []), (34, .ptr 3 4 0), (33, .func 34 [] [.ptr 0 7 0]), (32, .func 46 [] [.ptr 1 1 0, .ptr 2 1 0]), (4, .func 34 [] [.ptr 0 7 0]), (10, .ptr 1 1 0), (11, .ptr 2 1 0), (12, .ptr 3 4 0)]) K3 [Q1] [⟨[.i 0], 1, false⟩, ⟨[.i 8], 1, false⟩, Q3] [(10, .ptr 1 1 0), (11, .ptr 2 1 0)] [10, 11] 3 rfl rfl (by kernel_rfl) (fun h => frS 0 (M := K3) (rs := [0, 3]) (ms := []) (mv := []) (mm := []) (D := [3]) (xs' := [.ptr 3 4 0, .ptr 0 7 0]) (.refl) (i4_thr k a4 a5 a6 a7 a8 a9 a10 a0 a1 a2 a3 h) trivial trivial (by kernel_rfl)) (by kernel_rfl) (by kernel_rfl) (by kernel_rfl) (by kernel_rfl) (defT_of2 (⟨Try.prog, cx, Try.f46, fun _ => .tuple [], 4, fun _ => (mkH K4), cxTi, cxOrd, fun _ => none, false⟩ : Fx Unit) 5 2 (x := .iface 72 (.agg [])) thrown_cat (by kernel_rfl) (by kernel_rfl) (by kernel_rfl) rfl rfl rfl rfl ?_) rfl (by kernel_rfl) (by kernel_rfl) (by kernel_rfl) (.pures (by kernel_rfl)) ⟨(by kernel_rfl), trivial⟩ (by kernel_rfl) (by kernel_rfl) (fun x0_2 h => frW 0 K3 (rs := [0, 3]) (ms := []) (ms' := []) (mv := []) (xs' := [.ptr 3 4 0, .ptr 0 7 0]) (.refl) (i4_ok k a4 a5 a6 a7 a8 a9 a10 a0 a1 a2 a3 x0_2 h) trivial trivial (by kernel_rfl)) (fun _ => by kernel_rfl) (fun x0_2 hx0_2 => ?_)
   ·refine oE [(2, .iface 72 (.agg [])), (5, .iface 72 (.agg [])), (0, .ptr 1 1 0), (1, .ptr 2 1 0)] ?_
    let E1 : Env := [(4, .bool true), (3, .ptr 4 0 0), (12, .bool true), (11, .agg []), (8, .tuple [.agg [], .bool true]), (10, .tuple [.agg [], .bool true]), (9, .iface 72 (.agg [])), (7, .bool true), (6, .iface 72 (.agg [])), (2, .iface 72 (.agg [])), (5, .iface 72 (.agg [])), (0, .ptr 1 1 0), (1, .ptr 2 1 0)]
    let E2 : Env := [(0, .ptr 1 1 0), (1, .ptr 2 1 0), (2, .iface 72 (.agg [])), (4, .bool true)]
    refine oLH 19 i1d27p4 E2 (mkH [Q1, ⟨[.i 0], 0, false⟩, ⟨[.i 0], 0, false⟩, Q3, ⟨[], 0, false⟩]) ?_
    refine oH 10 .fin ((14, .bool false) :: (13, .bool true) :: E2) (mkH [Q1, ⟨[.i 0], 1, false⟩, ⟨[.i 8], 1, false⟩, Q3, ⟨[], 0, false⟩]) ?_
    refine ok_cut K4 [⟨[], 0, false⟩] (by kernel_rfl) rfl (by kernel_rfl) ⟨(by kernel_rfl), ⟨(by kernel_rfl), ⟨(by kernel_rfl), ⟨(by kernel_rfl), trivial⟩⟩⟩⟩ ?_
    exact ok_retO (r := ()) (xs := []) (by kernel_rfl) (by kernel_rfl) (by kernel_rfl) (by kernel_rfl)
   ·let Q4 : Blk := ⟨[.i x0_2.1, .str x0_2.2.1, q29 x0_2.2.2.1, .bool x0_2.2.2.2.1, .bool x0_2.2.2.2.2.1, w9 x0_2.2.2.2.2.2.1, w9 x0_2.2.2.2.2.2.2.1], 7, false⟩
    let Q5 : Blk := ⟨[.i x0_2.2.2.2.2.2.2.2], 1, false⟩
    let Q6 : Blk := ⟨[.str a0, w34 a1, .i x0_2.2.2.2.2.2.2.2, .i a3], 4, false⟩
    refine okD_run 11 (p' := .fin) (eE := ((39, .i x0_2.2.2.2.2.2.2.2) :: (38, .ptr 3 4 2) :: (37, .ptr 3 4 0) :: (36, .ptr 3 4 0) :: (35, .tuple []) :: (34, .ptr 3 4 0) :: (33, .func 34 [] [.ptr 0 7 0]) :: (32, .func 46 [] [.ptr 1 1 0, .ptr 2 1 0]) :: E4)) (H' := (mkH [Q4, Q5, ⟨[.i 0], 1, false⟩, Q6])) (by kernel_rfl) ?_
    refine okD_ret (r := (x0_2.2.2.2.2.2.2.2, (0 : Int), x0_2.2.2.2.2.2.2.1, x0_2.1, x0_2.2.1, x0_2.2.2.1, x0_2.2.2.2.1, x0_2.2.2.2.2.1, x0_2.2.2.2.2.2.1)) (xs := [.i x0_2.2.2.2.2.2.2.2, .i 0]) (v := .tuple [.i x0_2.2.2.2.2.2.2.2, .i 0]) [Q4, Q5, ⟨[.i 0], 1, false⟩, Q6] [Q4] [Q5, ⟨[.i 0], 1, false⟩, Q6] rfl rfl (defT_of2 (⟨Try.prog, cx, Try.f46, fun _ => .tuple [], 4, fun _ => (mkH [Q4, Q5, ⟨[.i 0], 1, false⟩, Q6]), cxTi, cxOrd, fun _ => none, false⟩ : Fx Unit) 5 2 (x := .nili) none_cat (by kernel_rfl) (by kernel_rfl) (by kernel_rfl) rfl rfl rfl rfl ?_) (by kernel_rfl) (by kernel_rfl) (by kernel_rfl) (by kernel_rfl) (.pures (by kernel_rfl)) ⟨(by kernel_rfl), trivial⟩ (by kernel_rfl) (by kernel_rfl)
    let E1 : Env := [(7, .bool false), (6, .nili), (2, .nili), (5, .nili), (0, .ptr 1 1 0), (1, .ptr 2 1 0)]
    refine oH 7 .fin E1 (mkH [Q4, Q5, ⟨[.i 0], 1, false⟩, Q6]) ?_
    exact ok_retO (r := ()) (xs := []) (by kernel_rfl) (by kernel_rfl) (by kernel_rfl) (by kernel_rfl)
 ·refine oS 15 (fun hb => ?_) (fun hb => ?_)
  ·refine oLH 11 i1p2 [(0, .str a0), (1, w34 a1), (2, .i a2), (3, .i a3), (4, .func 34 [] [.ptr 0 7 0]), (10, .ptr 1 1 0), (11, .ptr 2 1 0), (25, .bool true)] (mkH K1) ?_
   exact hj1 true
  ·let E8 : Env := ((21, .bool (decide ((a1.length : Int) < a3))) :: (20, .bool (decide ((a1.length : Int) < a3))) :: (19, .bool (decide ((a1.length : Int) < a3))) :: (18, .i (a1.length : Int)) :: (17, w34 a1) :: (16, .i a3) :: (15, .bool false) :: E1)
   refine oH 6 (atN 9 (ctl1 i1p1)) E8 (mkH K1) ?_
   refine oS 21 (fun hb => ?_) (fun hb => ?_)
   ·refine oR 5 i1p2 ((25, .bool true) :: (24, .tuple []) :: (23, .tuple []) :: (22, .tuple []) :: (21, .bool true) :: E8) ?_
    refine oK [0, 1, 2, 3, 4, 10, 11, 25] [(0, .str a0), (1, w34 a1), (2, .i a2), (3, .i a3), (4, .func 34 [] [.ptr 0 7 0]), (10, .ptr 1 1 0), (11, .ptr 2 1 0), (25, .bool true)] ?_
    exact hj1 true
   ·refine oL 5 i1p2 [(0, .str a0), (1, w34 a1), (2, .i a2), (3, .i a3), (4, .func 34 [] [.ptr 0 7 0]), (10, .ptr 1 1 0), (11, .ptr 2 1 0), (25, .bool (decide (a3 < a2)))] ?_
    exact hj1 (decide (a3 < a2))
theorem i1_ok (k : Nat) : Pi1 (i1 k) := fun a0 a1 a2 a3 a4 a5 a6 a7 a8 a9 a10 x h => i1_all k a0 a1 a2 a3 a4 a5 a6 a7 a8 a9 a10 x h
end
end Go.Proofs.Ythpplbkobokghaa.Am
set_option maxRecDepth 100000
set_option linter.unusedVariables false
namespace Go.Proofs.Ythpplbkobokghaa.Am
noncomputable section
open Go
def Xg23 : Fx (S28 × Int × Int) := ⟨Try.prog, cx, Try.f23, fun r => .tuple [.agg [.i r.1.f0, .str r.1.f1, q29 r.1.f2, .bool r.1.f3, .bool r.1.f4, w9 r.1.f5, w9 r.1.f6], .i r.2.1, .i r.2.2], 0, fun _ => H0, cxTi, cxOrd, fun _ => none, false⟩
def g23p0 : Pt := nav [0] (bodyAt Try.f23)
def g23p1 : Pt := nav [0, 0, 0] g23p0
def g23p2 : Pt := nav [0, 0, 0] g23p1
def g23p3 : Pt := nav [0, 0, 0] g23p2
def g23 (k : Nat) (a0 : (List Nat)) (a1 : (List S33)) (a2 : Int) (a3 : Int) : Option (S28 × Int × Int) :=
 (i1 k a0 a1 a2 a3 (0 : Int) ([] : List Nat) (⟨(([] : List S28)).length, (([] : List S28)).flatMap e29⟩ : Raw) false false ([] : List (List Nat)) ([] : List (List Nat))).bind fun x0_5 => (g30 k (⟨x0_5.2.2.2.1, x0_5.2.2.2.2.1, x0_5.2.2.2.2.2.1, x0_5.2.2.2.2.2.2.1, x0_5.2.2.2.2.2.2.2.1, x0_5.2.2.2.2.2.2.2.2, x0_5.2.2.1⟩ : S28) x0_5.2.1).bind fun x1_2 => some ((⟨x1_2.f0, x1_2.f1, x1_2.f2, x1_2.f3, x1_2.f4, x1_2.f5, x1_2.f6⟩ : S28), x0_5.1, x0_5.2.1)
theorem g23_ok (k : Nat) (a0 : (List Nat)) (a1 : (List S33)) (a2 : Int) (a3 : Int) (r : (S28 × Int × Int)) (h : g23 k a0 a1 a2 a3 = some r) : PureOk Try.prog 23 [.str a0, w34 a1, .i a2, .i a3] (.tuple [.agg [.i r.1.f0, .str r.1.f1, q29 r.1.f2, .bool r.1.f3, .bool r.1.f4, w9 r.1.f5, w9 r.1.f6], .i r.2.1, .i r.2.2]) := by
 refine pure_of Xg23 (fun _ => ⟨rfl, rfl⟩) Try.func23 (by decide +kernel) (by kernel_rfl) (t := g23 k a0 a1 a2 a3) ?_ h
 unfold g23
 refine ok_env (eE := [(0, .str a0), (1, w34 a1), (2, .i a2), (3, .i a3)]) (by kernel_rfl) ?_
 let E1 : Env := [(11, .ptr 1 7 0), (10, .i 0), (9, .i 0), (8, .ptr 0 7 0), (0, .str a0), (1, w34 a1), (2, .i a2), (3, .i a3)]
 let Q1 : Blk := ⟨[.i 0, .str [], .nils, .bool false, .bool false, .nils, .nils], 0, false⟩
 refine oH 11 g23p2 E1 (mkH [Q1, Q1]) ?_
 refine ok_wkH [Q1, Q1] 1 0 [.i 0, .str [], .nils, .bool false, .bool false, .nils, .nils] [.i 0, .str [], w29 ([] : List S28), .bool false, .bool false, w9 ([] : List (List Nat)), w9 ([] : List (List Nat))] (by kernel_rfl) rfl (.cons (.cons (.nil (.cons (.cons (.nil (.nil (.refl)))))))) ?_
 let E2 : Env := ((19, .func 34 [] [.ptr 1 7 0]) :: (18, .i a3) :: (17, .i a2) :: (16, w34 a1) :: (15, .str a0) :: E1)
 refine oH 6 (atN 5 (ctl1 g23p2)) E2 (mkH [Q1, ⟨[.i 0, .str [], w29 ([] : List S28), .bool false, .bool false, w9 ([] : List (List Nat)), w9 ([] : List (List Nat))], 0, false⟩]) ?_
 refine ok_callN (fun (x0_5 : Ri1) => .tuple [.i x0_5.1, .i x0_5.2.1]) (fun (x0_5 : Ri1) => (mkH [Q1, ⟨[.i x0_5.2.2.2.1, .str x0_5.2.2.2.2.1, q29 x0_5.2.2.2.2.2.1, .bool x0_5.2.2.2.2.2.2.1, .bool x0_5.2.2.2.2.2.2.2.1, w9 x0_5.2.2.2.2.2.2.2.2, w9 x0_5.2.2.1], 7, false⟩])) (atN 6 (ctl1 g23p2)) (fun x0_5 => ((20, .tuple [.i x0_5.1, .i x0_5.2.1]) :: E2)) (fi := 27) (args := [.str a0, w34 a1, .i a2, .i a3, .func 34 [] [.ptr 1 7 0]]) (by kernel_rfl) (fun x0_5 h => frW 0 [Q1, ⟨[.i 0, .str [], w29 ([] : List S28), .bool false, .bool false, w9 ([] : List (List Nat)), w9 ([] : List (List Nat))], 7, false⟩] (rs := [1]) (ms := []) (ms' := []) (mv := []) (xs' := [.str a0, w34 a1, .i a2, .i a3, .func 34 [] [.ptr 1 7 0]]) (.refl) (i1_ok k a0 a1 a2 a3 (0 : Int) ([] : List Nat) (⟨(([] : List S28)).length, (([] : List S28)).flatMap e29⟩ : Raw) false false ([] : List (List Nat)) ([] : List (List Nat)) x0_5 h) trivial trivial (by kernel_rfl)) (fun _ => by kernel_rfl) (fun x0_5 hx0_5 => ?_)
 let E4 : Env := [(8, .ptr 0 7 0), (11, .ptr 1 7 0), (12, .i x0_5.1), (13, .i x0_5.2.1)]
 refine oLH 7 g23p3 E4 (mkH [Q1, ⟨[.i x0_5.2.2.2.1, .str x0_5.2.2.2.2.1, q29 x0_5.2.2.2.2.2.1, .bool x0_5.2.2.2.2.2.2.1, .bool x0_5.2.2.2.2.2.2.2.1, w9 x0_5.2.2.2.2.2.2.2.2, w9 x0_5.2.2.1], 7, false⟩]) ?_
 refine oR 3 (atN 2 (ctl1 g23p3)) ((24, .i x0_5.2.1) :: (23, .agg [.i x0_5.2.2.2.1, .str x0_5.2.2.2.2.1, q29 x0_5.2.2.2.2.2.1, .bool x0_5.2.2.2.2.2.2.1, .bool x0_5.2.2.2.2.2.2.2.1, w9 x0_5.2.2.2.2.2.2.2.2, w9 x0_5.2.2.1]) :: E4) ?_
 refine oA (fun (x1_2 : S28) => n29 x1_2) (atN 3 (ctl1 g23p3)) 25 [.agg [.i x0_5.2.2.2.1, .str x0_5.2.2.2.2.1, q29 x0_5.2.2.2.2.2.1, .bool x0_5.2.2.2.2.2.2.1, .bool x0_5.2.2.2.2.2.2.2.1, w9 x0_5.2.2.2.2.2.2.2.2, w9 x0_5.2.2.1], .i x0_5.2.1] (g30_ok k (⟨x0_5.2.2.2.1, x0_5.2.2.2.2.1, x0_5.2.2.2.2.2.1, x0_5.2.2.2.2.2.2.1, x0_5.2.2.2.2.2.2.2.1, x0_5.2.2.2.2.2.2.2.2, x0_5.2.2.1⟩ : S28) x0_5.2.1) fun x1_2 hx1_2 => ?_
 exact oQ 7
end
end Go.Proofs.Ythpplbkobokghaa.Am
set_option maxRecDepth 100000
set_option linter.unusedVariables false
namespace Go.Proofs.Ythpplbkobokghaa.Am
noncomputable section
open Go
def Xg16 : Fx Bool := ⟨Try.prog, cx, Try.f16, fun r => .bool r, 0, fun _ => H0, cxTi, cxOrd, fun _ => none, false⟩
def g16c0 : List Nat := [97, 32, 43, 32, 98, 32, 42, 32, 99]
def g16c1 : List S33 := [(⟨(1 : Int), ([120] : List Nat), (0 : Int)⟩ : S33), (⟨(9 : Int), ([44] : List Nat), (1 : Int)⟩ : S33), (⟨(1 : Int), ([121] : List Nat), (4 : Int)⟩ : S33)]
def g16p0 : Pt := nav [0] (bodyAt Try.f16)
def g16p1 : Pt := nav [0, 0, 0] g16p0
def g16p2 : Pt := nav [0, 0, 0] g16p1
def g16p3 : Pt := nav [0, 0, 0] g16p2
def g16p4 : Pt := nav [0, 0, 0] g16p3
def g16p5 : Pt := nav [0, 0, 0] g16p4
def g16p6 : Pt := nav [0, 0, 0] g16p5
def g16 (k : Nat)  : Option Bool :=
 (g13 k g16c0).bind fun x0_1 => (g14 k g16c0 x0_1.1 (0 : Int) (x0_1.1.length : Int) (0 : Int)).bind fun x1_4 => (g14 k g16c0 x0_1.1 (0 : Int) (2 : Int) (0 : Int)).bind fun x2_2 => (g23 k ([120, 44, 10, 10, 121] : List Nat) g16c1 (0 : Int) (3 : Int)).bind fun x3_4 => if (decide (x0_1.2 = 0)) then (if (decide (x1_4.2.2 = 0)) then (if (decide (x1_4.2.1 = 5)) then (if (decide (x1_4.1.f0 = 14)) then (if (eqL x1_4.1.f1 [43]) then (if (decide ((x1_4.1.f2.n : Int) = 2)) then ((nthR d29 7 x1_4.1.f2.n x1_4.1.f2.cells 1).bind fun x4_29 => if (eqL x4_29.f1 [42]) then (if (decide (x2_2.2.2 = 8)) then (if (decide (x3_4.2.2 = 0)) then (if (decide ((x3_4.1.f2.n : Int) = 2)) then ((nthR d29 7 x3_4.1.f2.n x3_4.1.f2.cells 1).bind fun x4_51 => some x4_51.f4) else (some false)) else (some false)) else (some false)) else (some false)) else (some false)) else (some false)) else (some false)) else (some false)) else (some false)) else (some false)
theorem g16_ok (k : Nat)  (r : Bool) (h : g16 k  = some r) : PureOk Try.prog 16 [] (.bool r) := by
 refine pure_of Xg16 (fun _ => ⟨rfl, rfl⟩) Try.func16 (by decide +kernel) (by kernel_rfl) (t := g16 k ) ?_ h
 unfold g16
 refine ok_env (eE := []) (by kernel_rfl) ?_
 refine oH 11 (atN 1 (ctl1 g16p2)) [(14, .str g16c0), (1, .str g16c0), (0, .bool false)] (mkH []) ?_
 refine oA (fun (x0_1 : ((List S33) × Int)) => .tuple [w34 x0_1.1, .i x0_1.2]) (atN 2 (ctl1 g16p2)) 15 [.str g16c0] (g13_ok k g16c0) fun x0_1 hx0_1 => ?_
 refine oR 12 (atN 4 (ctl1 g16p3)) [(22, .i (x0_1.1.length : Int)), (21, w34 x0_1.1), (20, w34 x0_1.1), (19, .str g16c0), (3, .i x0_1.2), (2, w34 x0_1.1), (17, .i x0_1.2), (16, w34 x0_1.1), (13, .tuple [w34 x0_1.1, .i x0_1.2]), (15, .tuple [w34 x0_1.1, .i x0_1.2]), (14, .str g16c0), (1, .str g16c0), (0, .bool false)] ?_
 refine oA (fun (x1_4 : (S28 × Int × Int)) => .tuple [n29 x1_4.1, .i x1_4.2.1, .i x1_4.2.2]) (atN 5 (ctl1 g16p3)) 23 [.str g16c0, w34 x0_1.1, .i 0, .i (x0_1.1.length : Int), .i 0] (g14_ok k g16c0 x0_1.1 (0 : Int) (x0_1.1.length : Int) (0 : Int)) fun x1_4 hx1_4 => ?_
 let E3 : Env := [(1, .str g16c0), (2, w34 x0_1.1), (3, .i x0_1.2), (4, .ptr 0 7 0), (5, .i x1_4.2.1), (6, .i x1_4.2.2)]
 refine oLH 10 g16p4 E3 (mkH [⟨e29 x1_4.1, 7, false⟩]) ?_
 refine oR 3 (atN 2 (ctl1 g16p4)) ((29, w34 x0_1.1) :: (28, .str g16c0) :: E3) ?_
 refine oA (fun (x2_2 : (S28 × Int × Int)) => .tuple [n29 x2_2.1, .i x2_2.2.1, .i x2_2.2.2]) (atN 3 (ctl1 g16p4)) 30 [.str g16c0, w34 x0_1.1, .i 0, .i 2, .i 0] (g14_ok k g16c0 x0_1.1 (0 : Int) (2 : Int) (0 : Int)) fun x2_2 hx2_2 => ?_
 let E5 : Env := [(3, .i x0_1.2), (4, .ptr 0 7 0), (5, .i x1_4.2.1), (6, .i x1_4.2.2), (9, .i x2_2.2.2)]
 refine oLH 10 g16p5 E5 (mkH [⟨e29 x1_4.1, 7, false⟩, ⟨e29 x2_2.1, 7, false⟩]) ?_
 refine oH 5 (atN 4 (ctl1 g16p5)) ((38, .slice 2 9 0 3 3) :: (37, .agg [.i 1, .str [121], .i 4]) :: (36, .agg [.i 9, .str [44], .i 1]) :: (35, .agg [.i 1, .str [120], .i 0]) :: E5) (mkH [⟨e29 x1_4.1, 7, false⟩, ⟨e29 x2_2.1, 7, false⟩, ⟨[.i 1, .str [120], .i 0, .i 9, .str [44], .i 1, .i 1, .str [121], .i 4], 0, false⟩]) ?_
 refine oZ 38 2 3 3 [.i 1, .str [120], .i 0, .i 9, .str [44], .i 1, .i 1, .str [121], .i 4] [3, 4, 5, 6, 9, 35, 36, 37] [] trivial ?_
 refine oE [(38, w34 g16c1), (3, .i x0_1.2), (4, .ptr 0 7 0), (5, .i x1_4.2.1), (6, .i x1_4.2.2), (9, .i x2_2.2.2), (35, .agg [.i 1, .str [120], .i 0]), (36, .agg [.i 9, .str [44], .i 1]), (37, .agg [.i 1, .str [121], .i 4])] ?_
 refine oHp (mkH [⟨e29 x1_4.1, 7, false⟩, ⟨e29 x2_2.1, 7, false⟩, ⟨[], 0, false⟩]) ?_
 refine oA (fun (x3_4 : (S28 × Int × Int)) => .tuple [n29 x3_4.1, .i x3_4.2.1, .i x3_4.2.2]) (atN 5 (ctl1 g16p5)) 39 [.str [120, 44, 10, 10, 121], w34 g16c1, .i 0, .i 3] (g23_ok k ([120, 44, 10, 10, 121] : List Nat) g16c1 (0 : Int) (3 : Int)) fun x3_4 hx3_4 => ?_
 let E7 : Env := [(3, .i x0_1.2), (4, .ptr 0 7 0), (5, .i x1_4.2.1), (6, .i x1_4.2.2), (9, .i x2_2.2.2), (10, .ptr 3 7 0), (12, .i x3_4.2.2)]
 let K1 : List Blk := [⟨e29 x1_4.1, 7, false⟩, ⟨e29 x2_2.1, 7, false⟩, ⟨[], 0, false⟩, ⟨e29 x3_4.1, 7, false⟩]
 refine oLH 10 g16p6 E7 (mkH K1) ?_
 refine oR 4 (atN 3 (ctl1 g16p6)) ((45, .bool (decide (x0_1.2 = 0))) :: (44, .bool (decide (x0_1.2 = 0))) :: (43, .i x0_1.2) :: E7) ?_
 refine oS 45 (fun hb => ?_) (fun hb => ?_)
 ·let E8 : Env := ((49, .bool (decide (x1_4.2.2 = 0))) :: (48, .bool (decide (x1_4.2.2 = 0))) :: (47, .bool (decide (x1_4.2.2 = 0))) :: (46, .i x1_4.2.2) :: (45, .bool true) :: (45, .bool (decide (x0_1.2 = 0))) :: (44, .bool (decide (x0_1.2 = 0))) :: (43, .i x0_1.2) :: E7)
  refine oR 4 (atN 7 (ctl1 g16p6)) E8 ?_
  refine oS 49 (fun hb => ?_) (fun hb => ?_)
  ·let E9 : Env := ((53, .bool (decide (x1_4.2.1 = 5))) :: (52, .bool (decide (x1_4.2.1 = 5))) :: (51, .bool (decide (x1_4.2.1 = 5))) :: (50, .i x1_4.2.1) :: (49, .bool true) :: E8)
   refine oR 4 (atN 11 (ctl1 g16p6)) E9 ?_
   refine oS 53 (fun hb => ?_) (fun hb => ?_)
   ·let E10 : Env := ((58, .bool (decide (x1_4.1.f0 = 14))) :: (57, .bool (decide (x1_4.1.f0 = 14))) :: (56, .bool (decide (x1_4.1.f0 = 14))) :: (55, .i x1_4.1.f0) :: (54, .ptr 0 7 0) :: (53, .bool true) :: E9)
    refine oR 5 (atN 16 (ctl1 g16p6)) E10 ?_
    refine oS 58 (fun hb => ?_) (fun hb => ?_)
    ·let E11 : Env := ((63, .bool (eqL x1_4.1.f1 [43])) :: (62, .bool (eqL x1_4.1.f1 [43])) :: (61, .bool (eqL x1_4.1.f1 [43])) :: (60, .str x1_4.1.f1) :: (59, .ptr 0 7 1) :: (58, .bool true) :: E10)
     refine oR 5 (atN 21 (ctl1 g16p6)) E11 ?_
     refine oS 63 (fun hb => ?_) (fun hb => ?_)
     ·let E12 : Env := ((69, .bool (decide ((x1_4.1.f2.n : Int) = 2))) :: (68, .bool (decide ((x1_4.1.f2.n : Int) = 2))) :: (67, .bool (decide ((x1_4.1.f2.n : Int) = 2))) :: (66, .i (x1_4.1.f2.n : Int)) :: (65, q29 x1_4.1.f2) :: (64, .ptr 0 7 2) :: (63, .bool true) :: E11)
      refine oR 6 (atN 27 (ctl1 g16p6)) E12 ?_
      refine oS 69 (fun hb => ?_) (fun hb => ?_)
      ·refine oR 2 (atN 29 (ctl1 g16p6)) ((71, q29 x1_4.1.f2) :: (70, .ptr 0 7 2) :: (69, .bool true) :: E12) ?_
       refine ok_chk2 (fun (x4_29 : S28) => (.vptr [.i x4_29.f0, .str x4_29.f1, q29 x4_29.f2, .bool x4_29.f3, .bool x4_29.f4, w9 x4_29.f5, w9 x4_29.f6], (mkH K1))) (atN 30 (ctl1 g16p6)) (fun x4_29 => ((72, .vptr [.i x4_29.f0, .str x4_29.f1, q29 x4_29.f2, .bool x4_29.f3, .bool x4_29.f4, w9 x4_29.f5, w9 x4_29.f6]) :: (71, q29 x1_4.1.f2) :: (70, .ptr 0 7 2) :: (69, .bool true) :: E12)) (fun _ hx => vidxR (sz := 7) d29_ok hx (by kernel_rfl)) (fun _ => by kernel_rfl) (fun x4_29 hx4_29 => ?_)
       let E13 : Env := ((77, .bool (eqL x4_29.f1 [42])) :: (76, .bool (eqL x4_29.f1 [42])) :: (75, .bool (eqL x4_29.f1 [42])) :: (74, .str x4_29.f1) :: (73, .vptr [.str x4_29.f1, q29 x4_29.f2, .bool x4_29.f3, .bool x4_29.f4, w9 x4_29.f5, w9 x4_29.f6]) :: (72, .vptr [.i x4_29.f0, .str x4_29.f1, q29 x4_29.f2, .bool x4_29.f3, .bool x4_29.f4, w9 x4_29.f5, w9 x4_29.f6]) :: (71, q29 x1_4.1.f2) :: (70, .ptr 0 7 2) :: (69, .bool true) :: E12)
       refine oH 5 (atN 35 (ctl1 g16p6)) E13 (mkH K1) ?_
       refine oS 77 (fun hb => ?_) (fun hb => ?_)
       ·let E14 : Env := ((81, .bool (decide (x2_2.2.2 = 8))) :: (80, .bool (decide (x2_2.2.2 = 8))) :: (79, .bool (decide (x2_2.2.2 = 8))) :: (78, .i x2_2.2.2) :: (77, .bool true) :: E13)
        refine oR 4 (atN 39 (ctl1 g16p6)) E14 ?_
        refine oS 81 (fun hb => ?_) (fun hb => ?_)
        ·let E15 : Env := ((85, .bool (decide (x3_4.2.2 = 0))) :: (84, .bool (decide (x3_4.2.2 = 0))) :: (83, .bool (decide (x3_4.2.2 = 0))) :: (82, .i x3_4.2.2) :: (81, .bool true) :: E14)
         refine oR 4 (atN 43 (ctl1 g16p6)) E15 ?_
         refine oS 85 (fun hb => ?_) (fun hb => ?_)
         ·let E16 : Env := ((91, .bool (decide ((x3_4.1.f2.n : Int) = 2))) :: (90, .bool (decide ((x3_4.1.f2.n : Int) = 2))) :: (89, .bool (decide ((x3_4.1.f2.n : Int) = 2))) :: (88, .i (x3_4.1.f2.n : Int)) :: (87, q29 x3_4.1.f2) :: (86, .ptr 3 7 2) :: (85, .bool true) :: E15)
          refine oR 6 (atN 49 (ctl1 g16p6)) E16 ?_
          refine oS 91 (fun hb => ?_) (fun hb => ?_)
          ·refine oR 2 (atN 51 (ctl1 g16p6)) ((93, q29 x3_4.1.f2) :: (92, .ptr 3 7 2) :: (91, .bool true) :: E16) ?_
           refine ok_chk2 (fun (x4_51 : S28) => (.vptr [.i x4_51.f0, .str x4_51.f1, q29 x4_51.f2, .bool x4_51.f3, .bool x4_51.f4, w9 x4_51.f5, w9 x4_51.f6], (mkH K1))) (atN 52 (ctl1 g16p6)) (fun x4_51 => ((94, .vptr [.i x4_51.f0, .str x4_51.f1, q29 x4_51.f2, .bool x4_51.f3, .bool x4_51.f4, w9 x4_51.f5, w9 x4_51.f6]) :: (93, q29 x3_4.1.f2) :: (92, .ptr 3 7 2) :: (91, .bool true) :: E16)) (fun _ hx => vidxR (sz := 7) d29_ok hx (by kernel_rfl)) (fun _ => by kernel_rfl) (fun x4_51 hx4_51 => ?_)
           exact oQ 6
          ·exact oQ 9
         ·exact oQ 15
        ·exact oQ 19
       ·exact oQ 23
      ·exact oQ 31
     ·exact oQ 37
    ·exact oQ 42
   ·exact oQ 47
  ·exact oQ 51
 ·exact oQ 55
end
end Go.Proofs.Ythpplbkobokghaa.Am
set_option maxRecDepth 100000
set_option linter.unusedVariables false
namespace Go.Proofs.Ythpplbkobokghaa.Am
noncomputable section
open Go
def Xg17 : Fx (S28 × Int) := ⟨Try.prog, cx, Try.f17, fun r => .tuple [.agg [.i r.1.f0, .str r.1.f1, q29 r.1.f2, .bool r.1.f3, .bool r.1.f4, w9 r.1.f5, w9 r.1.f6], .i r.2], 0, fun _ => H0, cxTi, cxOrd, fun _ => none, false⟩
def g17p0 : Pt := nav [0] (bodyAt Try.f17)
def g17p1 : Pt := nav [0, 0, 0] g17p0
def g17p2 : Pt := nav [0, 0, 0, 0] g17p1
def g17p3 : Pt := nav [0, 0] g17p2
def g17p5 : Pt := nav [2, 0, 0] g17p3
def g17p7 : Pt := nav [0, 0, 0, 0] g17p5
def g17p8 : Pt := nav [0, 0] g17p7
def g17 (k : Nat) (a0 : (List Nat)) : Option (S28 × Int) :=
 (g13 k a0).bind fun x0_1 => if (!decide (x0_1.2 = 0)) then (some ((⟨(0 : Int), ([] : List Nat), ⟨0, []⟩, false, false, ([] : List (List Nat)), ([] : List (List Nat))⟩ : S28), x0_1.2)) else ((g14 k a0 x0_1.1 (0 : Int) (x0_1.1.length : Int) (0 : Int)).bind fun x1_4 => jn (fun (z2 : Bool) => if z2 then (some ((⟨(0 : Int), ([] : List Nat), ⟨0, []⟩, false, false, ([] : List (List Nat)), ([] : List (List Nat))⟩ : S28), (8 : Int))) else (some ((⟨x1_4.1.f0, x1_4.1.f1, x1_4.1.f2, x1_4.1.f3, x1_4.1.f4, x1_4.1.f5, x1_4.1.f6⟩ : S28), x1_4.2.2))) (fun j2 => if (decide (x1_4.2.2 = 0)) then (j2 (!decide (x1_4.2.1 = (x0_1.1.length : Int)))) else (j2 false)))
theorem g17_ok (k : Nat) (a0 : (List Nat)) (r : (S28 × Int)) (h : g17 k a0 = some r) : PureOk Try.prog 17 [.str a0] (.tuple [.agg [.i r.1.f0, .str r.1.f1, q29 r.1.f2, .bool r.1.f3, .bool r.1.f4, w9 r.1.f5, w9 r.1.f6], .i r.2]) := by
 refine pure_of Xg17 (fun _ => ⟨rfl, rfl⟩) Try.func17 (by decide +kernel) (by kernel_rfl) (t := g17 k a0) ?_ h
 unfold g17
 refine ok_env (eE := [(0, .str a0)]) (by kernel_rfl) ?_
 let Q1 : Blk := ⟨[.i 0, .str [], .nils, .bool false, .bool false, .nils, .nils], 0, false⟩
 refine oH 8 (atN 1 (ctl1 g17p1)) [(10, .str a0), (3, .i 0), (2, .ptr 0 7 0), (0, .str a0)] (mkH [Q1]) ?_
 refine oA (fun (x0_1 : ((List S33) × Int)) => .tuple [w34 x0_1.1, .i x0_1.2]) (atN 2 (ctl1 g17p1)) 11 [.str a0] (g13_ok k a0) fun x0_1 hx0_1 => ?_
 let E2 : Env := [(0, .str a0), (2, .ptr 0 7 0), (4, w34 x0_1.1), (5, .i x0_1.2), (15, .bool (!decide (x0_1.2 = 0)))]
 refine oL 12 g17p3 E2 ?_
 refine oS 15 (fun hb => ?_) (fun hb => ?_)
 ·refine oH 9 .fin ((3, .i x0_1.2) :: (17, .i x0_1.2) :: (16, .agg [.i 0, .str [], .nils, .bool false, .bool false, .nils, .nils]) :: (15, .bool true) :: E2) (mkH [⟨[.i 0, .str [], .nils, .bool false, .bool false, .nils, .nils], 7, false⟩]) ?_
  exact oT [.agg [.i 0, .str [], .nils, .bool false, .bool false, .nils, .nils], .i x0_1.2] (.tuple [.agg [.i 0, .str [], .vec 0 7 [], .bool false, .bool false, .vec 0 1 [], .vec 0 1 []], .i x0_1.2]) (.tuple (.agg (.cs (.cs (.nil (.cs (.cs (.nil (.nil .ps))))))) .ps) .ps)
 ·refine oR 8 (atN 4 (ctl1 g17p5)) ((22, .i (x0_1.1.length : Int)) :: (21, w34 x0_1.1) :: (20, w34 x0_1.1) :: (19, .str a0) :: (15, .bool false) :: E2) ?_
  refine oA (fun (x1_4 : (S28 × Int × Int)) => .tuple [n29 x1_4.1, .i x1_4.2.1, .i x1_4.2.2]) (atN 5 (ctl1 g17p5)) 23 [.str a0, w34 x0_1.1, .i 0, .i (x0_1.1.length : Int), .i 0] (g14_ok k a0 x0_1.1 (0 : Int) (x0_1.1.length : Int) (0 : Int)) fun x1_4 hx1_4 => ?_
  let E5 : Env := [(2, .ptr 0 7 0), (4, w34 x0_1.1), (6, .ptr 1 7 0), (7, .i x1_4.2.1), (8, .i x1_4.2.2)]
  refine oLH 11 g17p7 E5 (mkH [Q1, ⟨e29 x1_4.1, 7, false⟩]) ?_
  refine oR 4 (atN 3 (ctl1 g17p7)) ((29, .bool (decide (x1_4.2.2 = 0))) :: (28, .bool (decide (x1_4.2.2 = 0))) :: (27, .i x1_4.2.2) :: E5) ?_
  refine oJ g17p8 (fun (z2 : Bool) => [(2, .ptr 0 7 0), (6, .ptr 1 7 0), (8, .i x1_4.2.2), (34, .bool z2)]) (fun (z2 : Bool) => (mkH [Q1, ⟨e29 x1_4.1, 7, false⟩])) (fun z2 => ?_) (fun j2 hj2 => ?_)
  ·refine oS 34 (fun hb => ?_) (fun hb => ?_)
   ·refine oH 8 .fin [(3, .i 8), (35, .agg [.i 0, .str [], .nils, .bool false, .bool false, .nils, .nils]), (34, .bool true), (2, .ptr 0 7 0), (6, .ptr 1 7 0), (8, .i x1_4.2.2), (34, .bool z2)] (mkH [⟨[.i 0, .str [], .nils, .bool false, .bool false, .nils, .nils], 7, false⟩, ⟨e29 x1_4.1, 7, false⟩]) ?_
    exact oT [.agg [.i 0, .str [], .nils, .bool false, .bool false, .nils, .nils], .i 8] (.tuple [.agg [.i 0, .str [], .vec 0 7 [], .bool false, .bool false, .vec 0 1 [], .vec 0 1 []], .i 8]) (.tuple (.agg (.cs (.cs (.nil (.cs (.cs (.nil (.nil .ps))))))) .ps) .ps)
   ·exact oQ 10
  ·refine oS 29 (fun hb => ?_) (fun hb => ?_)
   ·refine oLH 6 g17p8 [(2, .ptr 0 7 0), (6, .ptr 1 7 0), (8, .i x1_4.2.2), (34, .bool (!decide (x1_4.2.1 = (x0_1.1.length : Int))))] (mkH [Q1, ⟨e29 x1_4.1, 7, false⟩]) ?_
    exact hj2 (!decide (x1_4.2.1 = (x0_1.1.length : Int)))
   ·refine oLH 6 g17p8 [(2, .ptr 0 7 0), (6, .ptr 1 7 0), (8, .i x1_4.2.2), (34, .bool false)] (mkH [Q1, ⟨e29 x1_4.1, 7, false⟩]) ?_
    exact hj2 false
end
end Go.Proofs.Ythpplbkobokghaa.Am
set_option maxRecDepth 100000
set_option linter.unusedVariables false
namespace Go.Proofs.Ythpplbkobokghaa.Am
noncomputable section
open Go
def Xg18 : Fx Int := ⟨Try.prog, cx, Try.f18, fun r => .i r, 0, fun _ => H0, cxTi, cxOrd, fun _ => none, false⟩
def g18c0 : List Int := [(0 : Int), (2 : Int), (1 : Int), (2 : Int), (2 : Int), (2 : Int), (3 : Int), (2 : Int), (1 : Int), (1 : Int)]
def g18p0 : Pt := nav [0] (bodyAt Try.f18)
def g18p1 : Pt := nav [0, 0, 0] g18p0
def g18 (k : Nat) (a0 : (List Nat)) : Option Int :=
 (g15 k a0).bind fun x0_2 => (nthL g18c0 x0_2).bind fun x0_3 => some x0_3
theorem g18_ok (k : Nat) (a0 : (List Nat)) (r : Int) (h : g18 k a0 = some r) : PureOk Try.prog 18 [.str a0] (.i r) := by
 refine pure_of Xg18 (fun _ => ⟨rfl, rfl⟩) Try.func18 (by decide +kernel) (by kernel_rfl) (t := g18 k a0) ?_ h
 unfold g18
 refine ok_env (eE := [(0, .str a0)]) (by kernel_rfl) ?_
 refine oH 7 (atN 1 (ctl1 g18p1)) [(3, .slice 0 10 0 10 1), (2, .i 0), (0, .str a0)] (mkH [⟨[.i 0, .i 2, .i 1, .i 2, .i 2, .i 2, .i 3, .i 2, .i 1, .i 1], 0, false⟩]) ?_
 refine oZ 3 0 10 1 [.i 0, .i 2, .i 1, .i 2, .i 2, .i 2, .i 3, .i 2, .i 1, .i 1] [0, 2] [] trivial ?_
 refine oH 1 (atN 2 (ctl1 g18p1)) [(4, .str a0), (3, w3 g18c0), (0, .str a0), (2, .i 0)] (mkH [⟨[], 0, false⟩]) ?_
 refine oA (fun (x0_2 : Int) => .i x0_2) (atN 3 (ctl1 g18p1)) 5 [.str a0] (g15_ok k a0) fun x0_2 hx0_2 => ?_
 refine oC (fun (x0_3 : Int) => (.vptr [.i x0_3], (mkH [⟨[], 0, false⟩]))) (atN 4 (ctl1 g18p1)) 6 (vidxH (sz := 1) e3_len (by kernel_rfl)) fun x0_3 hx0_3 => ?_
 exact oQ 4
end
end Go.Proofs.Ythpplbkobokghaa.Am
set_option maxRecDepth 100000
set_option linter.unusedVariables false
namespace Go.Proofs.Ythpplbkobokghaa.Am
noncomputable section
open Go
def Xg4 : Fx Bool := ⟨Try.prog, cx, Try.f4, fun r => .bool r, 0, fun _ => H0, cxTi, cxOrd, fun _ => none, false⟩
def g4c0 : List Nat := [111, 114, 101, 108, 115, 101]
def g4c1 : List Nat := [97, 110, 100, 97, 108, 115, 111]
def g4c2 : List (List Nat) := [([58, 58] : List Nat), ([124] : List Nat), ([61] : List Nat), ([33] : List Nat), g4c0, g4c1, ([61, 61] : List Nat), ([47, 61] : List Nat), ([61, 60] : List Nat), ([60] : List Nat), ([62, 61] : List Nat), ([62] : List Nat), ([61, 58, 61] : List Nat), ([61, 47, 61] : List Nat), ([43, 43] : List Nat), ([45, 45] : List Nat), ([43] : List Nat), ([45] : List Nat), ([98, 111, 114] : List Nat), ([98, 120, 111, 114] : List Nat), ([98, 115, 108] : List Nat), ([98, 115, 114] : List Nat), ([111, 114] : List Nat), ([120, 111, 114] : List Nat), ([42] : List Nat), ([47] : List Nat), ([100, 105, 118] : List Nat), ([114, 101, 109] : List Nat), ([98, 97, 110, 100] : List Nat), ([97, 110, 100] : List Nat)]
def g4p0 : Pt := nav [0] (bodyAt Try.f4)
def g4p1 : Pt := nav [0, 0, 0] g4p0
def g4p2 : Pt := nav [0, 0, 0] g4p1
def g4p3 : Pt := nav [0, 0] g4p2
def g4p4 : Pt := nav [0, 0, 0] g4p3
def g4p5 : Pt := nav [0, 0, 0] g4p4
def g4p6 : Pt := nav [0, 0, 0, 0] g4p5
def g4p7 : Pt := nav [0, 0] g4p6
def g4p8 : Pt := nav [1, 0] g4p7
def g4p9 : Pt := nav [2, 0, 0, 0] g4p7
def g4p11 : Pt := nav [0, 0] g4p9
def g4p13 : Pt := nav [2, 0, 0, 0] g4p11
def g4p14 : Pt := nav [0, 0] g4p13
def g4p15 : Pt := nav [1, 0] g4p14
def g4p16 : Pt := nav [2, 0, 0] g4p14
def g4 (k : Nat) (a0 : Int) (a1 : Int) : Option Bool :=
 (remS (fW .u64 a0) (fW .u64 (g4c2.length : Int))).bind fun x0_6 => (nthL g4c2 (fW .i64 x0_6)).bind fun x0_8 => (remS (fW .u64 a1) (fW .u64 (g4c2.length : Int))).bind fun x0_16 => (nthL g4c2 (fW .i64 x0_16)).bind fun x0_18 => (catS ([97, 32] : List Nat) x0_8).bind fun x1_1 => (catS x1_1 ([32, 98, 32] : List Nat)).bind fun x1_2 => (catS x1_2 x0_18).bind fun x1_4 => (catS x1_4 ([32, 99] : List Nat)).bind fun x1_5 => (g17 k x1_5).bind fun x1_6 => (g15 k x0_8).bind fun x2_1 => (g15 k x0_18).bind fun x2_3 => jn (fun (z8 : Bool) => jn (fun (z9 : Bool) => if z9 then ((g16 k).bind fun x5_0 => if x5_0 then (some (decide (x1_6.2 = 8))) else (some false)) else (jn (fun (z10 : Bool) => if z10 then (some false) else (if z8 then ((g16 k).bind fun x6_0 => if x6_0 then (if (eqL x1_6.1.f1 x0_8) then ((nthR d29 7 x1_6.1.f2.n x1_6.1.f2.cells 1).bind fun x6_10 => if (decide (x6_10.f0 = 14)) then ((nthR d29 7 x1_6.1.f2.n x1_6.1.f2.cells 1).bind fun x6_18 => if (eqL x6_18.f1 x0_18) then ((nthR d29 7 x1_6.1.f2.n x1_6.1.f2.cells 0).bind fun x6_27 => some (eqL x6_27.f1 [97])) else (some false)) else (some false)) else (some false)) else (some false)) else ((g16 k).bind fun x7_0 => if x7_0 then (if (eqL x1_6.1.f1 x0_18) then ((nthR d29 7 x1_6.1.f2.n x1_6.1.f2.cells 0).bind fun x7_10 => if (decide (x7_10.f0 = 14)) then ((nthR d29 7 x1_6.1.f2.n x1_6.1.f2.cells 0).bind fun x7_18 => if (eqL x7_18.f1 x0_8) then ((nthR d29 7 x1_6.1.f2.n x1_6.1.f2.cells 1).bind fun x7_27 => some (eqL x7_27.f1 [99])) else (some false)) else (some false)) else (some false)) else (some false)))) (fun j10 => if (!decide (x1_6.2 = 0)) then (j10 true) else (if (!decide (x1_6.1.f0 = 14)) then (j10 true) else (j10 (!decide ((x1_6.1.f2.n : Int) = 2))))))) (fun j9 => if (decide (x2_1 = x2_3)) then ((g18 k x0_8).bind fun x4_5 => j9 (decide (x4_5 = 3))) else (j9 false))) (fun j8 => if (decide (x2_1 < x2_3)) then (j8 true) else (if (decide (x2_3 = x2_1)) then ((g18 k x0_8).bind fun x3_9 => j8 (decide (x3_9 = 2))) else (j8 false)))
theorem g4_ok (k : Nat) (a0 : Int) (a1 : Int) (r : Bool) (h : g4 k a0 a1 = some r) : PureOk Try.prog 4 [.i a0, .i a1] (.bool r) := by
 refine pure_of Xg4 (fun _ => ⟨rfl, rfl⟩) Try.func4 (by decide +kernel) (by kernel_rfl) (t := g4 k a0 a1) ?_ h
 unfold g4
 refine ok_env (eE := [(0, .i a0), (1, .i a1)]) (by kernel_rfl) ?_
 refine oH 7 (atN 1 (ctl1 g4p1)) [(13, .slice 0 30 0 30 1), (4, .bool false), (0, .i a0), (1, .i a1)] (mkH [⟨[.str [58, 58], .str [124], .str [61], .str [33], .str g4c0, .str g4c1, .str [61, 61], .str [47, 61], .str [61, 60], .str [60], .str [62, 61], .str [62], .str [61, 58, 61], .str [61, 47, 61], .str [43, 43], .str [45, 45], .str [43], .str [45], .str [98, 111, 114], .str [98, 120, 111, 114], .str [98, 115, 108], .str [98, 115, 114], .str [111, 114], .str [120, 111, 114], .str [42], .str [47], .str [100, 105, 118], .str [114, 101, 109], .str [98, 97, 110, 100], .str [97, 110, 100]], 0, false⟩]) ?_
 refine oZ 13 0 30 1 [.str [58, 58], .str [124], .str [61], .str [33], .str g4c0, .str g4c1, .str [61, 61], .str [47, 61], .str [61, 60], .str [60], .str [62, 61], .str [62], .str [61, 58, 61], .str [61, 47, 61], .str [43, 43], .str [45, 45], .str [43], .str [45], .str [98, 111, 114], .str [98, 120, 111, 114], .str [98, 115, 108], .str [98, 115, 114], .str [111, 114], .str [120, 111, 114], .str [42], .str [47], .str [100, 105, 118], .str [114, 101, 109], .str [98, 97, 110, 100], .str [97, 110, 100]] [0, 1, 4] [] trivial ?_
 refine oH 3 g4p2 [(5, w9 g4c2), (13, w9 g4c2), (0, .i a0), (1, .i a1), (4, .bool false)] (mkH [⟨[], 0, false⟩]) ?_
 refine ok_bind (fun x0_6 hx0_6 => ?_)
 refine ok_bind (fun x0_8 hx0_8 => ?_)
 refine ok_bind (fun x0_16 hx0_16 => ?_)
 refine ok_bind (fun x0_18 hx0_18 => ?_)
 let E2 : Env := [(19, .int .u64 (fW .u64 (g4c2.length : Int))), (18, .i (g4c2.length : Int)), (17, w9 g4c2), (16, .int .u64 (fW .u64 a0)), (15, .i a0), (14, w9 g4c2), (5, w9 g4c2), (13, w9 g4c2), (0, .i a0), (1, .i a1), (4, .bool false)]
 let E3 : Env := ((29, .int .u64 (fW .u64 (g4c2.length : Int))) :: (28, .i (g4c2.length : Int)) :: (27, w9 g4c2) :: (26, .int .u64 (fW .u64 a1)) :: (25, .i a1) :: (24, w9 g4c2) :: (23, .str x0_8) :: (22, .vptr [.str x0_8]) :: (21, .i (fW .i64 x0_6)) :: (20, .int .u64 x0_6) :: E2)
 let E4 : Env := ((7, .str x0_18) :: (6, .str x0_8) :: (33, .str x0_18) :: (32, .vptr [.str x0_18]) :: (31, .i (fW .i64 x0_16)) :: (30, .int .u64 x0_16) :: E3)
 refine oD (H' := (mkH [⟨[], 0, false⟩])) (nav [0] g4p2) E4 [] ⟨[], [(0, 0, 0), (0, 0, 0), (2, 0, 0), (0, 0, 0), (8, 0, 0), (24, 0, 0), (62, 0, 0), (126, 0, 0), (255, 0, 0), (511, 0, 0), (0, 0, 0), (0, 0, 0), (2048, 0, 0), (0, 0, 0), (8192, 0, 0), (24576, 0, 0), (63488, 0, 0), (129024, 0, 0), (261120, 0, 0), (523264, 0, 0), (1023, 0, 0), (2097151, 0, 0)], 22, thrown, [], H0⟩ (oDr 6 6 E2 (opsD_chk (l' := (opsAt g4p2).toList.drop 7) (eE := ((20, .int .u64 x0_6) :: E2)) (hs := []) (x := x0_6) (fun (x0_6 : Int) => (.int .u64 x0_6, (mkH [⟨[], 0, false⟩]))) (remH (by kernel_rfl)) hx0_6 (by kernel_rfl) (oDr 1 8 ((21, .i (fW .i64 x0_6)) :: (20, .int .u64 x0_6) :: E2) (opsD_chk (l' := (opsAt g4p2).toList.drop 9) (eE := ((22, .vptr [.str x0_8]) :: (21, .i (fW .i64 x0_6)) :: (20, .int .u64 x0_6) :: E2)) (hs := []) (x := x0_8) (fun (x0_8 : (List Nat)) => (.vptr [.str x0_8], (mkH [⟨[], 0, false⟩]))) (vidxH (sz := 1) e9_len (by kernel_rfl)) hx0_8 (by kernel_rfl) (oDr 7 16 E3 (opsD_chk (l' := (opsAt g4p2).toList.drop 17) (eE := ((30, .int .u64 x0_16) :: E3)) (hs := []) (x := x0_16) (fun (x0_16 : Int) => (.int .u64 x0_16, (mkH [⟨[], 0, false⟩]))) (remH (by kernel_rfl)) hx0_16 (by kernel_rfl) (oDr 1 18 ((31, .i (fW .i64 x0_16)) :: (30, .int .u64 x0_16) :: E3) (opsD_chk (l' := (opsAt g4p2).toList.drop 19) (eE := ((32, .vptr [.str x0_18]) :: (31, .i (fW .i64 x0_16)) :: (30, .int .u64 x0_16) :: E3)) (hs := []) (x := x0_18) (fun (x0_18 : (List Nat)) => (.vptr [.str x0_18], (mkH [⟨[], 0, false⟩]))) (vidxH (sz := 1) e9_len (by kernel_rfl)) hx0_18 (by kernel_rfl) (oDr 3 22 E4 .nil))))))))) ?_
 refine oR 3 (atN 1 (ctl1 g4p3)) ((35, .str x0_8) :: E4) ?_
 refine oC (fun (x1_1 : (List Nat)) => (.str x1_1, (mkH [⟨[], 0, false⟩]))) (atN 2 (ctl1 g4p3)) 36 (catH (by kernel_rfl)) fun x1_1 hx1_1 => ?_
 refine oC (fun (x1_2 : (List Nat)) => (.str x1_2, (mkH [⟨[], 0, false⟩]))) (atN 3 (ctl1 g4p3)) 37 (catH (by kernel_rfl)) fun x1_2 hx1_2 => ?_
 refine oH 1 (atN 4 (ctl1 g4p3)) ((38, .str x0_18) :: (37, .str x1_2) :: (36, .str x1_1) :: (35, .str x0_8) :: E4) (mkH [⟨[], 0, false⟩]) ?_
 refine oC (fun (x1_4 : (List Nat)) => (.str x1_4, (mkH [⟨[], 0, false⟩]))) (atN 5 (ctl1 g4p3)) 39 (catH (by kernel_rfl)) fun x1_4 hx1_4 => ?_
 refine oC (fun (x1_5 : (List Nat)) => (.str x1_5, (mkH [⟨[], 0, false⟩]))) (atN 6 (ctl1 g4p3)) 40 (catH (by kernel_rfl)) fun x1_5 hx1_5 => ?_
 refine oA (fun (x1_6 : (S28 × Int)) => .tuple [n29 x1_6.1, .i x1_6.2]) (atN 7 (ctl1 g4p3)) 41 [.str x1_5] (g17_ok k x1_5) fun x1_6 hx1_6 => ?_
 let E6 : Env := [(6, .str x0_8), (7, .str x0_18), (8, .ptr 1 7 0), (9, .i x1_6.2)]
 refine oLH 8 g4p4 E6 (mkH [⟨[], 0, false⟩, ⟨e29 x1_6.1, 7, false⟩]) ?_
 refine oR 2 (atN 1 (ctl1 g4p4)) ((44, .str x0_8) :: E6) ?_
 refine oA (fun (x2_1 : Int) => .i x2_1) (atN 2 (ctl1 g4p4)) 45 [.str x0_8] (g15_ok k x0_8) fun x2_1 hx2_1 => ?_
 refine oR 1 (atN 3 (ctl1 g4p4)) ((46, .str x0_18) :: (45, .i x2_1) :: (44, .str x0_8) :: E6) ?_
 refine oA (fun (x2_3 : Int) => .i x2_3) (atN 4 (ctl1 g4p4)) 47 [.str x0_18] (g15_ok k x0_18) fun x2_3 hx2_3 => ?_
 let E7 : Env := ((51, .bool (decide (x2_1 < x2_3))) :: (50, .bool (decide (x2_1 < x2_3))) :: (49, .i x2_1) :: (48, .i x2_3) :: (11, .i x2_3) :: (10, .i x2_1) :: (47, .i x2_3) :: (46, .str x0_18) :: (45, .i x2_1) :: (44, .str x0_8) :: E6)
 refine oR 9 (atN 4 (ctl1 g4p5)) E7 ?_
 refine oJ g4p6 (fun (z8 : Bool) => [(6, .str x0_8), (7, .str x0_18), (8, .ptr 1 7 0), (9, .i x1_6.2), (10, .i x2_1), (11, .i x2_3), (12, .bool z8)]) (fun (z8 : Bool) => (mkH [⟨[], 0, false⟩, ⟨e29 x1_6.1, 7, false⟩])) (fun z8 => ?_) (fun j8 hj8 => ?_)
 ·let E8 : Env := [(64, .bool (decide (x2_1 = x2_3))), (63, .bool (decide (x2_1 = x2_3))), (62, .i x2_3), (61, .i x2_1), (6, .str x0_8), (7, .str x0_18), (8, .ptr 1 7 0), (9, .i x1_6.2), (10, .i x2_1), (11, .i x2_3), (12, .bool z8)]
  refine oH 5 (atN 4 (ctl1 g4p6)) E8 (mkH [⟨[], 0, false⟩, ⟨e29 x1_6.1, 7, false⟩]) ?_
  refine oJ g4p7 (fun (z9 : Bool) => [(6, .str x0_8), (7, .str x0_18), (8, .ptr 1 7 0), (9, .i x1_6.2), (12, .bool z8), (68, .bool z9)]) (fun (z9 : Bool) => (mkH [⟨[], 0, false⟩, ⟨e29 x1_6.1, 7, false⟩])) (fun z9 => ?_) (fun j9 hj9 => ?_)
  ·refine oS 68 (fun hb => ?_) (fun hb => ?_)
   ·let E9 : Env := [(68, .bool true), (6, .str x0_8), (7, .str x0_18), (8, .ptr 1 7 0), (9, .i x1_6.2), (12, .bool z8), (68, .bool z9)]
    refine oH 3 (atN 0 (ctl1 g4p8)) E9 (mkH [⟨[], 0, false⟩, ⟨e29 x1_6.1, 7, false⟩]) ?_
    refine oA (fun (x5_0 : Bool) => .bool x5_0) (atN 1 (ctl1 g4p8)) 69 [] (g16_ok k ) fun x5_0 hx5_0 => ?_
    refine oR 1 (atN 2 (ctl1 g4p8)) ((70, .bool x5_0) :: (69, .bool x5_0) :: E9) ?_
    refine oS 70 (fun hb => ?_) (fun hb => ?_)
    ·exact oQ 6
    ·exact oQ 6
   ·let E12 : Env := [(76, .bool (!decide (x1_6.2 = 0))), (75, .bool (!decide (x1_6.2 = 0))), (74, .i x1_6.2), (68, .bool false), (6, .str x0_8), (7, .str x0_18), (8, .ptr 1 7 0), (9, .i x1_6.2), (12, .bool z8), (68, .bool z9)]
    refine oH 8 (atN 3 (ctl1 g4p9)) E12 (mkH [⟨[], 0, false⟩, ⟨e29 x1_6.1, 7, false⟩]) ?_
    refine oJ g4p11 (fun (z10 : Bool) => [(6, .str x0_8), (7, .str x0_18), (8, .ptr 1 7 0), (12, .bool z8), (86, .bool z10)]) (fun (z10 : Bool) => (mkH [⟨[], 0, false⟩, ⟨e29 x1_6.1, 7, false⟩])) (fun z10 => ?_) (fun j10 hj10 => ?_)
    ·refine oS 86 (fun hb => ?_) (fun hb => ?_)
     ·exact oQ 6
     ·let E14 : Env := [(87, .bool z8), (86, .bool false), (6, .str x0_8), (7, .str x0_18), (8, .ptr 1 7 0), (12, .bool z8), (86, .bool z10)]
      refine oH 7 g4p14 E14 (mkH [⟨[], 0, false⟩, ⟨e29 x1_6.1, 7, false⟩]) ?_
      refine oS 87 (fun hb => ?_) (fun hb => ?_)
      ·refine oR 3 (atN 0 (ctl1 g4p15)) ((87, .bool true) :: E14) ?_
       refine oA (fun (x6_0 : Bool) => .bool x6_0) (atN 1 (ctl1 g4p15)) 88 [] (g16_ok k ) fun x6_0 hx6_0 => ?_
       refine oR 1 (atN 2 (ctl1 g4p15)) ((89, .bool x6_0) :: (88, .bool x6_0) :: (87, .bool true) :: E14) ?_
       refine oS 89 (fun hb => ?_) (fun hb => ?_)
       ·let E15 : Env := ((95, .bool (eqL x1_6.1.f1 x0_8)) :: (94, .bool (eqL x1_6.1.f1 x0_8)) :: (93, .bool (eqL x1_6.1.f1 x0_8)) :: (92, .str x0_8) :: (91, .str x1_6.1.f1) :: (90, .ptr 1 7 1) :: (89, .bool true) :: (89, .bool x6_0) :: (88, .bool x6_0) :: (87, .bool true) :: E14)
        refine oR 6 (atN 8 (ctl1 g4p15)) E15 ?_
        refine oS 95 (fun hb => ?_) (fun hb => ?_)
        ·refine oR 2 (atN 10 (ctl1 g4p15)) ((97, q29 x1_6.1.f2) :: (96, .ptr 1 7 2) :: (95, .bool true) :: E15) ?_
         refine ok_chk2 (fun (x6_10 : S28) => (.vptr [.i x6_10.f0, .str x6_10.f1, q29 x6_10.f2, .bool x6_10.f3, .bool x6_10.f4, w9 x6_10.f5, w9 x6_10.f6], (mkH [⟨[], 0, false⟩, ⟨e29 x1_6.1, 7, false⟩]))) (atN 11 (ctl1 g4p15)) (fun x6_10 => ((98, .vptr [.i x6_10.f0, .str x6_10.f1, q29 x6_10.f2, .bool x6_10.f3, .bool x6_10.f4, w9 x6_10.f5, w9 x6_10.f6]) :: (97, q29 x1_6.1.f2) :: (96, .ptr 1 7 2) :: (95, .bool true) :: E15)) (fun _ hx => vidxR (sz := 7) d29_ok hx (by kernel_rfl)) (fun _ => by kernel_rfl) (fun x6_10 hx6_10 => ?_)
         let E16 : Env := ((103, .bool (decide (x6_10.f0 = 14))) :: (102, .bool (decide (x6_10.f0 = 14))) :: (101, .bool (decide (x6_10.f0 = 14))) :: (100, .i x6_10.f0) :: (99, .vptr [.i x6_10.f0, .str x6_10.f1, q29 x6_10.f2, .bool x6_10.f3, .bool x6_10.f4, w9 x6_10.f5, w9 x6_10.f6]) :: (98, .vptr [.i x6_10.f0, .str x6_10.f1, q29 x6_10.f2, .bool x6_10.f3, .bool x6_10.f4, w9 x6_10.f5, w9 x6_10.f6]) :: (97, q29 x1_6.1.f2) :: (96, .ptr 1 7 2) :: (95, .bool true) :: E15)
         refine oH 5 (atN 16 (ctl1 g4p15)) E16 (mkH [⟨[], 0, false⟩, ⟨e29 x1_6.1, 7, false⟩]) ?_
         refine oS 103 (fun hb => ?_) (fun hb => ?_)
         ·refine oR 2 (atN 18 (ctl1 g4p15)) ((105, q29 x1_6.1.f2) :: (104, .ptr 1 7 2) :: (103, .bool true) :: E16) ?_
          refine ok_chk2 (fun (x6_18 : S28) => (.vptr [.i x6_18.f0, .str x6_18.f1, q29 x6_18.f2, .bool x6_18.f3, .bool x6_18.f4, w9 x6_18.f5, w9 x6_18.f6], (mkH [⟨[], 0, false⟩, ⟨e29 x1_6.1, 7, false⟩]))) (atN 19 (ctl1 g4p15)) (fun x6_18 => ((106, .vptr [.i x6_18.f0, .str x6_18.f1, q29 x6_18.f2, .bool x6_18.f3, .bool x6_18.f4, w9 x6_18.f5, w9 x6_18.f6]) :: (105, q29 x1_6.1.f2) :: (104, .ptr 1 7 2) :: (103, .bool true) :: E16)) (fun _ hx => vidxR (sz := 7) d29_ok hx (by kernel_rfl)) (fun _ => by kernel_rfl) (fun x6_18 hx6_18 => ?_)
          let E17 : Env := ((112, .bool (eqL x6_18.f1 x0_18)) :: (111, .bool (eqL x6_18.f1 x0_18)) :: (110, .bool (eqL x6_18.f1 x0_18)) :: (109, .str x0_18) :: (108, .str x6_18.f1) :: (107, .vptr [.str x6_18.f1, q29 x6_18.f2, .bool x6_18.f3, .bool x6_18.f4, w9 x6_18.f5, w9 x6_18.f6]) :: (106, .vptr [.i x6_18.f0, .str x6_18.f1, q29 x6_18.f2, .bool x6_18.f3, .bool x6_18.f4, w9 x6_18.f5, w9 x6_18.f6]) :: (105, q29 x1_6.1.f2) :: (104, .ptr 1 7 2) :: (103, .bool true) :: E16)
          refine oH 6 (atN 25 (ctl1 g4p15)) E17 (mkH [⟨[], 0, false⟩, ⟨e29 x1_6.1, 7, false⟩]) ?_
          refine oS 112 (fun hb => ?_) (fun hb => ?_)
          ·refine oR 2 (atN 27 (ctl1 g4p15)) ((114, q29 x1_6.1.f2) :: (113, .ptr 1 7 2) :: (112, .bool true) :: E17) ?_
           refine ok_chk2 (fun (x6_27 : S28) => (.vptr [.i x6_27.f0, .str x6_27.f1, q29 x6_27.f2, .bool x6_27.f3, .bool x6_27.f4, w9 x6_27.f5, w9 x6_27.f6], (mkH [⟨[], 0, false⟩, ⟨e29 x1_6.1, 7, false⟩]))) (atN 28 (ctl1 g4p15)) (fun x6_27 => ((115, .vptr [.i x6_27.f0, .str x6_27.f1, q29 x6_27.f2, .bool x6_27.f3, .bool x6_27.f4, w9 x6_27.f5, w9 x6_27.f6]) :: (114, q29 x1_6.1.f2) :: (113, .ptr 1 7 2) :: (112, .bool true) :: E17)) (fun _ hx => vidxR (sz := 7) d29_ok hx (by kernel_rfl)) (fun _ => by kernel_rfl) (fun x6_27 hx6_27 => ?_)
           exact oQ 7
          ·exact oQ 10
         ·exact oQ 19
        ·exact oQ 27
       ·exact oQ 33
      ·refine oR 4 (atN 0 (ctl1 g4p16)) ((87, .bool false) :: E14) ?_
       refine oA (fun (x7_0 : Bool) => .bool x7_0) (atN 1 (ctl1 g4p16)) 120 [] (g16_ok k ) fun x7_0 hx7_0 => ?_
       refine oR 1 (atN 2 (ctl1 g4p16)) ((121, .bool x7_0) :: (120, .bool x7_0) :: (87, .bool false) :: E14) ?_
       refine oS 121 (fun hb => ?_) (fun hb => ?_)
       ·let E23 : Env := ((127, .bool (eqL x1_6.1.f1 x0_18)) :: (126, .bool (eqL x1_6.1.f1 x0_18)) :: (125, .bool (eqL x1_6.1.f1 x0_18)) :: (124, .str x0_18) :: (123, .str x1_6.1.f1) :: (122, .ptr 1 7 1) :: (121, .bool true) :: (121, .bool x7_0) :: (120, .bool x7_0) :: (87, .bool false) :: E14)
        refine oR 6 (atN 8 (ctl1 g4p16)) E23 ?_
        refine oS 127 (fun hb => ?_) (fun hb => ?_)
        ·refine oR 2 (atN 10 (ctl1 g4p16)) ((129, q29 x1_6.1.f2) :: (128, .ptr 1 7 2) :: (127, .bool true) :: E23) ?_
         refine ok_chk2 (fun (x7_10 : S28) => (.vptr [.i x7_10.f0, .str x7_10.f1, q29 x7_10.f2, .bool x7_10.f3, .bool x7_10.f4, w9 x7_10.f5, w9 x7_10.f6], (mkH [⟨[], 0, false⟩, ⟨e29 x1_6.1, 7, false⟩]))) (atN 11 (ctl1 g4p16)) (fun x7_10 => ((130, .vptr [.i x7_10.f0, .str x7_10.f1, q29 x7_10.f2, .bool x7_10.f3, .bool x7_10.f4, w9 x7_10.f5, w9 x7_10.f6]) :: (129, q29 x1_6.1.f2) :: (128, .ptr 1 7 2) :: (127, .bool true) :: E23)) (fun _ hx => vidxR (sz := 7) d29_ok hx (by kernel_rfl)) (fun _ => by kernel_rfl) (fun x7_10 hx7_10 => ?_)
         let E24 : Env := ((135, .bool (decide (x7_10.f0 = 14))) :: (134, .bool (decide (x7_10.f0 = 14))) :: (133, .bool (decide (x7_10.f0 = 14))) :: (132, .i x7_10.f0) :: (131, .vptr [.i x7_10.f0, .str x7_10.f1, q29 x7_10.f2, .bool x7_10.f3, .bool x7_10.f4, w9 x7_10.f5, w9 x7_10.f6]) :: (130, .vptr [.i x7_10.f0, .str x7_10.f1, q29 x7_10.f2, .bool x7_10.f3, .bool x7_10.f4, w9 x7_10.f5, w9 x7_10.f6]) :: (129, q29 x1_6.1.f2) :: (128, .ptr 1 7 2) :: (127, .bool true) :: E23)
         refine oH 5 (atN 16 (ctl1 g4p16)) E24 (mkH [⟨[], 0, false⟩, ⟨e29 x1_6.1, 7, false⟩]) ?_
         refine oS 135 (fun hb => ?_) (fun hb => ?_)
         ·refine oR 2 (atN 18 (ctl1 g4p16)) ((137, q29 x1_6.1.f2) :: (136, .ptr 1 7 2) :: (135, .bool true) :: E24) ?_
          refine ok_chk2 (fun (x7_18 : S28) => (.vptr [.i x7_18.f0, .str x7_18.f1, q29 x7_18.f2, .bool x7_18.f3, .bool x7_18.f4, w9 x7_18.f5, w9 x7_18.f6], (mkH [⟨[], 0, false⟩, ⟨e29 x1_6.1, 7, false⟩]))) (atN 19 (ctl1 g4p16)) (fun x7_18 => ((138, .vptr [.i x7_18.f0, .str x7_18.f1, q29 x7_18.f2, .bool x7_18.f3, .bool x7_18.f4, w9 x7_18.f5, w9 x7_18.f6]) :: (137, q29 x1_6.1.f2) :: (136, .ptr 1 7 2) :: (135, .bool true) :: E24)) (fun _ hx => vidxR (sz := 7) d29_ok hx (by kernel_rfl)) (fun _ => by kernel_rfl) (fun x7_18 hx7_18 => ?_)
          let E25 : Env := ((144, .bool (eqL x7_18.f1 x0_8)) :: (143, .bool (eqL x7_18.f1 x0_8)) :: (142, .bool (eqL x7_18.f1 x0_8)) :: (141, .str x0_8) :: (140, .str x7_18.f1) :: (139, .vptr [.str x7_18.f1, q29 x7_18.f2, .bool x7_18.f3, .bool x7_18.f4, w9 x7_18.f5, w9 x7_18.f6]) :: (138, .vptr [.i x7_18.f0, .str x7_18.f1, q29 x7_18.f2, .bool x7_18.f3, .bool x7_18.f4, w9 x7_18.f5, w9 x7_18.f6]) :: (137, q29 x1_6.1.f2) :: (136, .ptr 1 7 2) :: (135, .bool true) :: E24)
          refine oH 6 (atN 25 (ctl1 g4p16)) E25 (mkH [⟨[], 0, false⟩, ⟨e29 x1_6.1, 7, false⟩]) ?_
          refine oS 144 (fun hb => ?_) (fun hb => ?_)
          ·refine oR 2 (atN 27 (ctl1 g4p16)) ((146, q29 x1_6.1.f2) :: (145, .ptr 1 7 2) :: (144, .bool true) :: E25) ?_
           refine ok_chk2 (fun (x7_27 : S28) => (.vptr [.i x7_27.f0, .str x7_27.f1, q29 x7_27.f2, .bool x7_27.f3, .bool x7_27.f4, w9 x7_27.f5, w9 x7_27.f6], (mkH [⟨[], 0, false⟩, ⟨e29 x1_6.1, 7, false⟩]))) (atN 28 (ctl1 g4p16)) (fun x7_27 => ((147, .vptr [.i x7_27.f0, .str x7_27.f1, q29 x7_27.f2, .bool x7_27.f3, .bool x7_27.f4, w9 x7_27.f5, w9 x7_27.f6]) :: (146, q29 x1_6.1.f2) :: (145, .ptr 1 7 2) :: (144, .bool true) :: E25)) (fun _ hx => vidxR (sz := 7) d29_ok hx (by kernel_rfl)) (fun _ => by kernel_rfl) (fun x7_27 hx7_27 => ?_)
           exact oQ 7
          ·exact oQ 10
         ·exact oQ 19
        ·exact oQ 27
       ·exact oQ 33
    ·refine oS 76 (fun hb => ?_) (fun hb => ?_)
     ·refine oLH 11 g4p11 [(6, .str x0_8), (7, .str x0_18), (8, .ptr 1 7 0), (12, .bool z8), (86, .bool true)] (mkH [⟨[], 0, false⟩, ⟨e29 x1_6.1, 7, false⟩]) ?_
      exact hj10 true
     ·refine oH 5 (atN 8 (ctl1 g4p9)) ((81, .bool (!decide (x1_6.1.f0 = 14))) :: (80, .bool (!decide (x1_6.1.f0 = 14))) :: (79, .bool (!decide (x1_6.1.f0 = 14))) :: (78, .i x1_6.1.f0) :: (77, .ptr 1 7 0) :: (76, .bool false) :: E12) (mkH [⟨[], 0, false⟩, ⟨e29 x1_6.1, 7, false⟩]) ?_
      refine oS 81 (fun hb => ?_) (fun hb => ?_)
      ·refine oL 6 g4p11 [(6, .str x0_8), (7, .str x0_18), (8, .ptr 1 7 0), (12, .bool z8), (86, .bool true)] ?_
       exact hj10 true
      ·refine oL 6 g4p11 [(6, .str x0_8), (7, .str x0_18), (8, .ptr 1 7 0), (12, .bool z8), (86, .bool (!decide ((x1_6.1.f2.n : Int) = 2)))] ?_
       exact hj10 (!decide ((x1_6.1.f2.n : Int) = 2))
  ·refine oS 64 (fun hb => ?_) (fun hb => ?_)
   ·refine oH 1 (atN 5 (ctl1 g4p6)) ((65, .str x0_8) :: (64, .bool true) :: E8) (mkH [⟨[], 0, false⟩, ⟨e29 x1_6.1, 7, false⟩]) ?_
    refine oA (fun (x4_5 : Int) => .i x4_5) (atN 6 (ctl1 g4p6)) 66 [.str x0_8] (g18_ok k x0_8) fun x4_5 hx4_5 => ?_
    refine oL 3 g4p7 [(6, .str x0_8), (7, .str x0_18), (8, .ptr 1 7 0), (9, .i x1_6.2), (12, .bool z8), (68, .bool (decide (x4_5 = 3)))] ?_
    exact hj9 (decide (x4_5 = 3))
   ·refine oLH 5 g4p7 [(6, .str x0_8), (7, .str x0_18), (8, .ptr 1 7 0), (9, .i x1_6.2), (12, .bool z8), (68, .bool false)] (mkH [⟨[], 0, false⟩, ⟨e29 x1_6.1, 7, false⟩]) ?_
    exact hj9 false
 ·refine oS 51 (fun hb => ?_) (fun hb => ?_)
  ·refine oLH 13 g4p6 [(6, .str x0_8), (7, .str x0_18), (8, .ptr 1 7 0), (9, .i x1_6.2), (10, .i x2_1), (11, .i x2_3), (12, .bool true)] (mkH [⟨[], 0, false⟩, ⟨e29 x1_6.1, 7, false⟩]) ?_
   exact hj8 true
  ·let E44 : Env := ((55, .bool (decide (x2_3 = x2_1))) :: (54, .bool (decide (x2_3 = x2_1))) :: (53, .i x2_1) :: (52, .i x2_3) :: (51, .bool false) :: E7)
   refine oH 4 (atN 8 (ctl1 g4p5)) E44 (mkH [⟨[], 0, false⟩, ⟨e29 x1_6.1, 7, false⟩]) ?_
   refine oS 55 (fun hb => ?_) (fun hb => ?_)
   ·refine oR 1 (atN 9 (ctl1 g4p5)) ((56, .str x0_8) :: (55, .bool true) :: E44) ?_
    refine oA (fun (x3_9 : Int) => .i x3_9) (atN 10 (ctl1 g4p5)) 57 [.str x0_8] (g18_ok k x0_8) fun x3_9 hx3_9 => ?_
    refine oL 7 g4p6 [(6, .str x0_8), (7, .str x0_18), (8, .ptr 1 7 0), (9, .i x1_6.2), (10, .i x2_1), (11, .i x2_3), (12, .bool (decide (x3_9 = 2)))] ?_
    exact hj8 (decide (x3_9 = 2))
   ·refine oL 9 g4p6 [(6, .str x0_8), (7, .str x0_18), (8, .ptr 1 7 0), (9, .i x1_6.2), (10, .i x2_1), (11, .i x2_3), (12, .bool false)] ?_
    exact hj8 false
end
end Go.Proofs.Ythpplbkobokghaa.Am
set_option linter.unusedVariables false
namespace Go.Proofs.Ythpplbkobokghaa.Am
open Go
theorem fwrap_u64 (n : Int) : fW .u64 n = n % 18446744073709551616 := by
 rw [fwrap_eq]; simp [IntKind.wrap, IntKind.bits, IntKind.signed]
theorem rem_at (a : Int) (q : Nat) (h0 : 0 < q) (hq : q < 18446744073709551616) : ∃ i : Nat, i < q ∧ remS (fW .u64 a) (fW .u64 (q : Int)) = some (i : Int) ∧ remS (fW .u64 (i : Int)) (fW .u64 (q : Int)) = some (i : Int) := by
 have e1 : fW .u64 (q : Int) = q := by rw [fwrap_u64]; omega
 have e2 : 0 ≤ fW .u64 a := by rw [fwrap_u64]; omega
 have hne : ¬ (q : Int) = 0 := by omega
 have h1 : 0 ≤ (fW .u64 a) % (q : Int) := Int.emod_nonneg _ hne
 have h2 : (fW .u64 a) % (q : Int) < q := Int.emod_lt_of_pos _ (by omega)
 refine ⟨((fW .u64 a) % (q : Int)).toNat, by omega, ?_, ?_⟩
 ·rw [e1]; unfold remS
  rw [if_neg hne, Int.tmod_eq_emod_of_nonneg e2]
  congr 1; omega
 ·rw [e1]; unfold remS
  have e3 : fW .u64 ((((fW .u64 a) % (q : Int)).toNat : Nat) : Int) = (fW .u64 a) % (q : Int) := by rw [fwrap_u64]; omega
  rw [e3, if_neg hne, Int.tmod_eq_emod_of_nonneg h1, Int.emod_emod_of_dvd _ (Int.dvd_refl _)]
  congr 1; omega
def isT (o : Option Bool) : Bool := match o with | some b => b | none => false
theorem isT_eq {o : Option Bool} (h : isT o = true) : o = some true := by
 unfold isT at h; split at h
 ·rw [h]
 ·cases h
theorem all2 {f : Nat → Nat → Option Bool} {p q : Nat} (h : ((List.range p).all fun i => (List.range q).all fun j => isT (f i j)) = true) (i j : Nat) (hi : i < p) (hj : j < q) : f i j = some true :=
 isT_eq (List.all_eq_true.1 (List.all_eq_true.1 h i (List.mem_range.2 hi)) j (List.mem_range.2 hj))
end Go.Proofs.Ythpplbkobokghaa.Am
set_option maxRecDepth 100000
namespace Go.Proofs.Ythpplbkobokghaa.Am
open Go
theorem parseGroups_0 : ((List.range 6).all fun i => (List.range 30).all fun j => isT (g4 60 ((i + 0 : Nat) : Int) (j : Int))) = true := by decide +kernel
theorem parseGroups_1 : ((List.range 6).all fun i => (List.range 30).all fun j => isT (g4 60 ((i + 6 : Nat) : Int) (j : Int))) = true := by decide +kernel
theorem parseGroups_2 : ((List.range 6).all fun i => (List.range 30).all fun j => isT (g4 60 ((i + 12 : Nat) : Int) (j : Int))) = true := by decide +kernel
theorem parseGroups_3 : ((List.range 6).all fun i => (List.range 30).all fun j => isT (g4 60 ((i + 18 : Nat) : Int) (j : Int))) = true := by decide +kernel
theorem parseGroups_4 : ((List.range 6).all fun i => (List.range 30).all fun j => isT (g4 60 ((i + 24 : Nat) : Int) (j : Int))) = true := by decide +kernel
theorem parseGroups_true (a b : Int) : ∃ k, g4 k a b = some true := by
 obtain ⟨i, hi, h1, h2⟩ := rem_at a 30 (by decide) (by decide)
 obtain ⟨j, hj, h3, h4⟩ := rem_at b 30 (by decide) (by decide)
 refine ⟨60, ?_⟩
 have h : g4 60 (i : Int) (j : Int) = some true := by
  rcases (by omega : i < 6 ∨ (6 ≤ i ∧ i < 12) ∨ (12 ≤ i ∧ i < 18) ∨ (18 ≤ i ∧ i < 24) ∨ 24 ≤ i) with q | q | q | q | q
  ·exact all2 (f := fun i j => g4 60 ((i + 0 : Nat) : Int) (j : Int)) parseGroups_0 i j q hj
  ·have := all2 (f := fun i j => g4 60 ((i + 6 : Nat) : Int) (j : Int)) parseGroups_1 (i - 6) j (by omega) hj
   rwa [show i - 6 + 6 = i by omega] at this
  ·have := all2 (f := fun i j => g4 60 ((i + 12 : Nat) : Int) (j : Int)) parseGroups_2 (i - 12) j (by omega) hj
   rwa [show i - 12 + 12 = i by omega] at this
  ·have := all2 (f := fun i j => g4 60 ((i + 18 : Nat) : Int) (j : Int)) parseGroups_3 (i - 18) j (by omega) hj
   rwa [show i - 18 + 18 = i by omega] at this
  ·have := all2 (f := fun i j => g4 60 ((i + 24 : Nat) : Int) (j : Int)) parseGroups_4 (i - 24) j (by omega) hj
   rwa [show i - 24 + 24 = i by omega] at this
 have hl : (g4c2.length : Int) = ((30 : Nat) : Int) := by decide
 simp only [g4, hl] at h ⊢
 rw [h2, h4] at h
 rw [h1, h3]
 exact h
end Go.Proofs.Ythpplbkobokghaa.Am
set_option linter.unusedVariables false
set_option linter.unusedSimpArgs false
namespace Go.Proofs.Ythpplbkobokghaa.Am
open Go
theorem parseGroups_walk (a0 : Int) (a1 : Int) (W : World) (w0 : (Lit.int .i64 a0).wf = true) (w1 : (Lit.int .i64 a1).wf = true) : Calls Try.prog 4 #[.int .i64 a0, .int .i64 a1] W fun e W' => e = .returned (.bool true) ∧ RowKit.Below W.heap.size W W' := by
 obtain ⟨k, h⟩ := parseGroups_true a0 a1
 exact law_walk (g4_ok k a0 a1 true h) (by simp only [VRs, VR, AV.i, AV.y]; exact ⟨_, _, rfl, rfl, ⟨_, _, rfl, rfl, rfl⟩⟩) W
end Go.Proofs.Ythpplbkobokghaa.Am
namespace Go.Proofs.Ythpplbkobokghaa.parseGroups
open Go.ChangeShapes Go.WideShapes Go.ChangeAt Go.RowKit
open Go.ChangeMaps (open_string shut_string)
set_option linter.unusedVariables false
theorem own : ownKnob Try.prog.godebug = none := by kernel_rfl
set_option maxRecDepth 100000 in
theorem lifted (os : Os) (started : os.Started) (H : Type) (enc : TypeId × Value → H) :
 ReturnsInHanded {} Try.checked os 4 .any (Rows.parseGroupsSpec.pre6 enc Try.prog Try.f4 Rows.parseGroupsRow.domain false) (Rows.parseGroupsSpec.post enc Try.prog Try.f4 false true false false) := by
 refine returnsInHanded_of_change_sized (C := Try.checked) own started (by kernel_rfl) Try.func4
  (ChangeSpec.witness6 (enc := enc) (C := Try.checked) false ⟨#[], #[.int .i64 0, .int .i64 0], []⟩ 8 (by kernel_rfl) (by kernel_rfl) (by kernel_rfl) (by kernel_rfl)) ?_
 intro W base args ds gs before hval0 hW hcnd hsz0 _
 have hsz : (DataW.weightsEach Try.prog (Try.f4.params.toList ++ Rows.parseGroupsSpec.plain.varTypes Try.prog) (ds ++ gs)).all (· ≤ reachBytes) = true := hsz0
 have hval : ∀ (j : Nat) t v, Try.f4.params[j]? = some t → args[j]? = some v → Value.okWide Try.prog W .any base t v := hval0
 have hW' := hW
 obtain ⟨p, q, hA0, hV, rfl, hfz, hnd⟩ := hW
 have hA : DataW.TrodAll enc Try.prog W 0 (fun _ => true) true Try.f4.params.toList args.toList ds p := hA0
 rw [Try.params4] at hA hval hsz
 obtain ⟨v0, vs0, d0, ds0, p0, q0, hargs, rfl, rfl, h0, r0⟩ := trodAll_cons hA
 obtain ⟨v1, vs1, d1, ds1, p1, q1, rfl, rfl, rfl, h1, r1⟩ := trodAll_cons r0
 obtain ⟨rfl, rfl, rfl⟩ := trodAll_nil r1
 obtain rfl : args = #[v0, v1] := by cases args; simp_all
 obtain ⟨rfl, rfl⟩ := trodVars_none hV
 obtain ⟨a0, rfl, rfl, rfl, w0⟩ := open_int Try.underlying3 (hval 0 3 v0 rfl rfl) h0
 obtain ⟨a1, rfl, rfl, rfl, w1⟩ := open_int Try.underlying3 (hval 1 3 v1 rfl rfl) h1
 clear hA0 hval0 hsz0 hsz
 refine (Am.parseGroups_walk a0 a1 W w0 w1).mono fun e W' ⟨he, bel⟩ => ?_
 subst he
 exact ⟨_, rfl, _, _, _, [], _, [], hW', trodAll_mk1 (shut_bool Try.underlying4 _), (trodAll_cons_mk (shut_int Try.underlying3 w0) (trodAll_cons_mk (shut_int Try.underlying3 w1) trodAll_mk0)), rfl, bel.frame _, fun h => by cases h⟩
theorem over : Rows.parseGroupsRow.holds Try.pinned (OpenSpec.ofChange Rows.parseGroupsSpec) :=
 OpenClaim.holds_of_wide 4 Try.f4 rfl rfl rfl rfl rfl rfl rfl ⟨rfl, rfl, rfl, rfl, rfl⟩ rfl rfl rfl rfl rfl (by kernel_rfl) Try.func4 (by kernel_rfl)
  (of_decide_eq_true (by kernel_rfl)) (by unfold Func.isWrapper; first | (rw [if_pos (by decide +kernel)]; kernel_rfl) | (rw [if_neg (by decide +kernel)]; exact ⟨rfl, rfl⟩))
  (fun os started H enc _ => lifted os started H enc)
theorem proved : Rows.ParseGroupsSaid := over
#print axioms proved
end Go.Proofs.Ythpplbkobokghaa.parseGroups
namespace Go.Proofs.Ythpplbkobokghaa
theorem parseGroups_holds : Rows.ParseGroupsSaid := parseGroups.proved
end Go.Proofs.Ythpplbkobokghaa
