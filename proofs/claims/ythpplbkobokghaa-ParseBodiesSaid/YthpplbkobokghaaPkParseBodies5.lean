/- LawParseBodies, part 5: whatever the input, the law comes out true: our texts, joined by a tool, without what the claim does not name. -/
import Derived.Test.YthpplbkobokghaaPkParseBodies4
set_option maxRecDepth 100000
set_option linter.unusedVariables false
set_option linter.unusedSimpArgs false
set_option maxRecDepth 100000
set_option linter.unusedVariables false
namespace Go.Proofs.Ythpplbkobokghaa.Am
noncomputable section
open Go
theorem qJv (k : Nat) (F : Fns0) (hF : FnsOk0 F) : ∀ a0 a1 a2 a3 a4 a5 a6 r, i47B k F a0 a1 a2 a3 a4 a5 a6 = some r → CallT Try.prog 108 [.ptr 0 4 0, .str a0, .agg [.i a1.f0, .str a1.f1, q29 a1.f2, .bool a1.f3, .bool a1.f4, w9 a1.f5, w9 a1.f6], .agg [.i a2.f0, .str a2.f1, q29 a2.f2, .bool a2.f3, .bool a2.f4, w9 a2.f5, w9 a2.f6]] (mkH [⟨[.str a3, w34 a4, .i a5, .i a6], 4, false⟩]) ((Xi47 a0 a1 a2 a3 a4 a5 a6).thr r) ((Xi47 a0 a1 a2 a3 a4 a5 a6).enc r) ((Xi47 a0 a1 a2 a3 a4 a5 a6).fin r) := by
 intro a0 a1 a2 a3 a4 a5 a6 r h
 refine qA2 (Xi47 a0 a1 a2 a3 a4 a5 a6) Try.func108 (by kernel_rfl) (by kernel_rfl) rfl (t := i47B k F a0 a1 a2 a3 a4 a5 a6) ?_ h
 unfold i47B
 refine qA (eE := [(0, .ptr 0 4 0), (1, .str a0), (2, .agg [.i a1.f0, .str a1.f1, q29 a1.f2, .bool a1.f3, .bool a1.f4, w9 a1.f5, w9 a1.f6]), (3, .agg [.i a2.f0, .str a2.f1, q29 a2.f2, .bool a2.f3, .bool a2.f4, w9 a2.f5, w9 a2.f6])]) (by kernel_rfl) ?_
 let E1 : Env := [(10, .ptr 0 4 0), (8, .ptr 3 7 0), (7, .ptr 2 7 0), (6, .ptr 1 7 0), (0, .ptr 0 4 0), (1, .str a0), (2, n29 a1), (3, n29 a2)]
 let Q1 : Blk := ⟨[.str a3, w34 a4, .i a5, .i a6], 4, false⟩
 let Q2 : Blk := ⟨[.i 0, .str [], .nils, .bool false, .bool false, .nils, .nils], 0, false⟩
 refine oH 9 (atN 1 (ctl1 i47p1)) E1 (mkH [Q1, ⟨e29 a1, 0, false⟩, ⟨e29 a2, 0, false⟩, Q2]) ?_
 refine oX (fun (x0_1 : Int) => .tuple []) (fun x0_1 => [⟨[.str a3, w34 a4, .i x0_1, .i a6], 4, false⟩, ⟨e29 a1, 0, false⟩, ⟨e29 a2, 0, false⟩, Q2]) (atN 2 (ctl1 i47p1)) 11 [0] [] [] [0] [] [.ptr 0 4 0, .str [45, 62]] (qAt k ([45, 62] : List Nat) a3 a4 a5 a6) trivial (fun _ => trivial) trivial fun x0_1 hx0_1 => ?_
 refine oR 5 (atN 2 (ctl1 i47p2)) ((13, .ptr 0 4 0) :: (12, .str a0) :: (11, .tuple []) :: E1) ?_
 let Q3 : Blk := ⟨[.str a3, w34 a4, .i x0_1, .i a6], 4, false⟩
 refine oN (fun (x1_2 : Bool) => .bool x1_2) (fun x1_2 => [Q3, ⟨e29 a1, 0, false⟩, ⟨e29 a2, 0, false⟩, Q2]) (atN 3 (ctl1 i47p2)) 14 [0] [] [] [.ptr 0 4 0] (qH k a3 a4 x0_1 a6) trivial (fun _ => trivial) fun x1_2 hx1_2 => ?_
 let Q4 : Blk := ⟨[.i 22, .str a0, .nils, .bool x1_2, .bool false, .nils, .nils], 7, false⟩
 let K1 : List Blk := [Q3, ⟨e29 a1, 0, false⟩, ⟨e29 a2, 0, false⟩, Q2, Q4]
 refine oLH 5 i47p3 [(0, .ptr 0 4 0), (6, .ptr 1 7 0), (7, .ptr 2 7 0), (8, .ptr 3 7 0), (9, .ptr 4 7 0)] (mkH K1) ?_
 refine qC2 (fun h => ?_) (fun x2_3 hx2_3 => ?_)
 ·let E4 : Env := [(18, .ptr 0 4 0), (17, n29 a2), (16, n29 a1), (0, .ptr 0 4 0), (6, .ptr 1 7 0), (7, .ptr 2 7 0), (8, .ptr 3 7 0), (9, .ptr 4 7 0)]
  exact qAj (eE := ((21, .top) :: (20, .top) :: (19, .top) :: E4)) (i47d0.th 3 thrown [0] (mkH K1)) (hs := [(mkH K1), (mkH K1)]) (LX := [Q1]) (L := K1) rfl rfl rfl (by kernel_rfl) rfl ⟨.inl rfl, trivial⟩ (by kernel_rfl) (by kernel_rfl) (by kernel_rfl) (by kernel_rfl) (qA9 3 (l' := (opsAt i47p3).toList.drop 3) (eE := E4) (H' := (mkH K1)) (hs := []) (by kernel_rfl) (qAi (l' := (opsAt i47p3).toList.drop 4) (eE := ((19, .top) :: E4)) (hs := [(mkH K1)]) (fi := 35) (args := [.ptr 0 4 0]) (by kernel_rfl) (by kernel_rfl) (frS 0 (M := K1) (rs := [0]) (ms := []) (mv := []) (mm := []) (D := [0]) (xs' := [.ptr 0 4 0]) (.refl) ((hF.i6_ok a3 a4 x0_1 a6).2 h) trivial trivial (by kernel_rfl)) (by kernel_rfl) (qA1 (l' := (opsAt i47p3).toList.drop 5) (eE := ((20, .top) :: (19, .top) :: E4)) (hs := []) (by kernel_rfl) (by kernel_rfl) (qA1 (l' := (opsAt i47p3).toList.drop 6) (eE := ((21, .top) :: (20, .top) :: (19, .top) :: E4)) (hs := []) (by kernel_rfl) (by kernel_rfl) (qA1 (l' := (opsAt i47p3).toList.drop 7) (eE := ((21, .top) :: (20, .top) :: (19, .top) :: E4)) (hs := [(mkH K1)]) (by kernel_rfl) (by kernel_rfl) (.nil)))))) (by kernel_rfl) (by kernel_rfl)
 ·let E4 : Env := [(18, .ptr 0 4 0), (17, n29 a2), (16, n29 a1), (0, .ptr 0 4 0), (6, .ptr 1 7 0), (7, .ptr 2 7 0), (8, .ptr 3 7 0), (9, .ptr 4 7 0)]
  let Q5 : Blk := ⟨[.str a3, w34 a4, .i x2_3.2, .i a6], 4, false⟩
  let Q6 : Blk := ⟨[.i 22, .str a0, w29 ([a1, a2, x2_3.1] : List S28), .bool x1_2, .bool false, .nils, .nils], 7, false⟩
  let K2 : List Blk := [Q5, ⟨e29 a1, 0, false⟩, ⟨e29 a2, 0, false⟩, Q2, Q6]
  let K3 : List Blk := [Q5, ⟨e29 a1, 0, false⟩, ⟨e29 a2, 0, false⟩, Q2, Q4]
  refine oD (H' := (mkH K2)) (nav [0] i47p3) ((21, .ptr 4 7 2) :: (20, w29 ([a1, a2, x2_3.1] : List S28)) :: (19, n29 x2_3.1) :: E4) [(mkH K3), (mkH K2)] i47d0 (oDr 3 3 E4 (qA5 (l' := (opsAt i47p3).toList.drop 4) (eE := ((19, n29 x2_3.1) :: E4)) (hs := [(mkH K3)]) (H' := (mkH K3)) (fi := 35) (args := [.ptr 0 4 0]) (v := n29 x2_3.1) (by kernel_rfl) (frC (rs := [0]) (ms := []) (ms' := []) ((hF.i6_ok a3 a4 x0_1 a6).1 x2_3 hx2_3) trivial trivial (by kernel_rfl)) (by kernel_rfl) (oDh 3 7 ((21, .ptr 4 7 2) :: (20, w29 ([a1, a2, x2_3.1] : List S28)) :: (19, n29 x2_3.1) :: E4) (mkH K2) [(mkH K2)] .nil))) ?_
  exact oQF 6 [Q5, ⟨e29 a1, 0, false⟩, ⟨e29 a2, 0, false⟩, Q6, Q6] 1 [] [.agg [.i 22, .str a0, w29 ([a1, a2, x2_3.1] : List S28), .bool x1_2, .bool false, .nils, .nils]] (.agg [.i 22, .str a0, w29 ([a1, a2, x2_3.1] : List S28), .bool x1_2, .bool false, .vec 0 1 [], .vec 0 1 []]) (.agg (.cs (.cs (.cs (.cs (.cs (.nil (.nil .ps))))))) .ps) trivial
theorem i47B_ok (k : Nat) (F : Fns0) (hF : FnsOk0 F) : Pi47 (i47B k F) := fun a0 a1 a2 a3 a4 a5 a6 => ⟨fun x h => qJv k F hF a0 a1 a2 a3 a4 a5 a6 (some x) h, fun h => ⟨_, qJv k F hF a0 a1 a2 a3 a4 a5 a6 none h⟩⟩
def i48p1 : Pt := nav [0, 0, 0] (nav [0] (bodyAt Try.f107))
def i48p2 : Pt := nav [0, 0, 0] i48p1
def i48d0 : DP := ⟨[], [(0, 0, 0), (0, 0, 0), (0, 0, 1), (0, 0, 0), (8, 0, 0), (31, 0, 0), (63, 0, 0)], 7, thrown, [], H0⟩
def i48B (k : Nat) (F : Fns0) (a0 : (List Nat)) (a1 : (List Nat)) (a2 : (List S33)) (a3 : Int) (a4 : Int) : Option (Option (S28 × Int)) :=
 bT (F.i51 a1 a2 a3 a4) fun x0_1 => bT (F.i49 a1 a2 x0_1.2 a4) fun x1_4 => bT (F.i47 a0 x0_1.1 x1_4.1 a1 a2 x1_4.2 a4) fun x1_5 => some (some (x1_5.1, x1_5.2))
theorem qJu (k : Nat) (F : Fns0) (hF : FnsOk0 F) : ∀ a0 a1 a2 a3 a4 r, i48B k F a0 a1 a2 a3 a4 = some r → CallT Try.prog 107 [.ptr 0 4 0, .str a0] (mkH [⟨[.str a1, w34 a2, .i a3, .i a4], 4, false⟩]) ((Xi48 a0 a1 a2 a3 a4).thr r) ((Xi48 a0 a1 a2 a3 a4).enc r) ((Xi48 a0 a1 a2 a3 a4).fin r) := by
 intro a0 a1 a2 a3 a4 r h
 refine qA2 (Xi48 a0 a1 a2 a3 a4) Try.func107 (by kernel_rfl) (by kernel_rfl) rfl (t := i48B k F a0 a1 a2 a3 a4) ?_ h
 unfold i48B
 refine qA (eE := [(0, .ptr 0 4 0), (1, .str a0)]) (by kernel_rfl) ?_
 let Q1 : Blk := ⟨[.str a1, w34 a2, .i a3, .i a4], 4, false⟩
 let Q2 : Blk := ⟨[.i 0, .str [], .nils, .bool false, .bool false, .nils, .nils], 0, false⟩
 refine oH 7 (atN 1 (ctl1 i48p1)) [(6, .ptr 0 4 0), (4, .ptr 1 7 0), (0, .ptr 0 4 0), (1, .str a0)] (mkH [Q1, Q2]) ?_
 refine oX (fun (x0_1 : (S28 × Int)) => n29 x0_1.1) (fun x0_1 => [⟨[.str a1, w34 a2, .i x0_1.2, .i a4], 4, false⟩, Q2]) (atN 2 (ctl1 i48p1)) 7 [0] [] [] [0] [] [.ptr 0 4 0] (hF.i51_ok a1 a2 a3 a4) trivial (fun _ => trivial) trivial fun x0_1 hx0_1 => ?_
 let Q3 : Blk := ⟨[.str a1, w34 a2, .i x0_1.2, .i a4], 4, false⟩
 refine oH 4 i48p2 [(5, .ptr 2 7 0), (7, n29 x0_1.1), (6, .ptr 0 4 0), (4, .ptr 1 7 0), (0, .ptr 0 4 0), (1, .str a0)] (mkH [Q3, Q2, ⟨e29 x0_1.1, 7, false⟩]) ?_
 refine qC2 (fun h => ?_) (fun x1_4 hx1_4 => ?_)
 ·let E2 : Env := [(11, .ptr 0 4 0), (10, n29 x0_1.1), (9, .str a0), (8, .ptr 0 4 0), (5, .ptr 2 7 0), (7, n29 x0_1.1), (6, .ptr 0 4 0), (4, .ptr 1 7 0), (0, .ptr 0 4 0), (1, .str a0)]
  exact qAj (eE := ((13, .top) :: (12, .top) :: E2)) (i48d0.th 4 thrown [0] (mkH [Q3, Q2, ⟨e29 x0_1.1, 7, false⟩])) (hs := [(mkH [Q3, Q2, ⟨e29 x0_1.1, 7, false⟩]), (mkH [Q3, Q2, ⟨e29 x0_1.1, 7, false⟩]), (mkH [Q3, Q2, ⟨e29 x0_1.1, 7, false⟩])]) (LX := [Q1]) (L := [Q3, Q2, ⟨e29 x0_1.1, 7, false⟩]) rfl rfl rfl (by kernel_rfl) rfl ⟨.inl rfl, trivial⟩ (by kernel_rfl) (by kernel_rfl) (by kernel_rfl) (by kernel_rfl) (qA9 4 (l' := (opsAt i48p2).toList.drop 4) (eE := E2) (H' := (mkH [Q3, Q2, ⟨e29 x0_1.1, 7, false⟩])) (hs := []) (by kernel_rfl) (qAi (l' := (opsAt i48p2).toList.drop 5) (eE := ((12, .top) :: E2)) (hs := [(mkH [Q3, Q2, ⟨e29 x0_1.1, 7, false⟩])]) (fi := 109) (args := [.ptr 0 4 0]) (by kernel_rfl) (by kernel_rfl) (frS 0 (M := [Q3, Q2, ⟨e29 x0_1.1, 7, false⟩]) (rs := [0]) (ms := []) (mv := []) (mm := []) (D := [0]) (xs' := [.ptr 0 4 0]) (.refl) ((hF.i49_ok a1 a2 x0_1.2 a4).2 h) trivial trivial (by kernel_rfl)) (by kernel_rfl) (qA1 (l' := (opsAt i48p2).toList.drop 6) (eE := ((13, .top) :: (12, .top) :: E2)) (hs := [(mkH [Q3, Q2, ⟨e29 x0_1.1, 7, false⟩])]) (by kernel_rfl) (by kernel_rfl) (qA1 (l' := (opsAt i48p2).toList.drop 7) (eE := ((13, .top) :: (12, .top) :: E2)) (hs := [(mkH [Q3, Q2, ⟨e29 x0_1.1, 7, false⟩])]) (by kernel_rfl) (by kernel_rfl) (.nil))))) (by kernel_rfl) (by kernel_rfl)
 ·refine qC2 (fun h => ?_) (fun x1_5 hx1_5 => ?_)
  ·let E2 : Env := [(11, .ptr 0 4 0), (10, n29 x0_1.1), (9, .str a0), (8, .ptr 0 4 0), (5, .ptr 2 7 0), (7, n29 x0_1.1), (6, .ptr 0 4 0), (4, .ptr 1 7 0), (0, .ptr 0 4 0), (1, .str a0)]
   let Q4 : Blk := ⟨[.str a1, w34 a2, .i x1_4.2, .i a4], 4, false⟩
   exact qAj (eE := ((13, .top) :: (12, n29 x1_4.1) :: E2)) (i48d0.th 5 thrown [0] (mkH [Q4, Q2, ⟨e29 x0_1.1, 7, false⟩])) (hs := [(mkH [Q4, Q2, ⟨e29 x0_1.1, 7, false⟩]), (mkH [Q4, Q2, ⟨e29 x0_1.1, 7, false⟩]), (mkH [Q4, Q2, ⟨e29 x0_1.1, 7, false⟩])]) (LX := [Q1]) (L := [Q4, Q2, ⟨e29 x0_1.1, 7, false⟩]) rfl rfl rfl (by kernel_rfl) rfl ⟨.inl rfl, trivial⟩ (by kernel_rfl) (by kernel_rfl) (by kernel_rfl) (by kernel_rfl) (qA9 4 (l' := (opsAt i48p2).toList.drop 4) (eE := E2) (H' := (mkH [Q3, Q2, ⟨e29 x0_1.1, 7, false⟩])) (hs := []) (by kernel_rfl) (qA5 (l' := (opsAt i48p2).toList.drop 5) (eE := ((12, n29 x1_4.1) :: E2)) (hs := [(mkH [Q4, Q2, ⟨e29 x0_1.1, 7, false⟩])]) (H' := (mkH [Q4, Q2, ⟨e29 x0_1.1, 7, false⟩])) (fi := 109) (args := [.ptr 0 4 0]) (v := n29 x1_4.1) (by kernel_rfl) (frC (rs := [0]) (ms := []) (ms' := []) ((hF.i49_ok a1 a2 x0_1.2 a4).1 x1_4 hx1_4) trivial trivial (by kernel_rfl)) (by kernel_rfl) (qAi (l' := (opsAt i48p2).toList.drop 6) (eE := ((13, .top) :: (12, n29 x1_4.1) :: E2)) (hs := [(mkH [Q4, Q2, ⟨e29 x0_1.1, 7, false⟩])]) (fi := 108) (args := [.ptr 0 4 0, .str a0, n29 x0_1.1, n29 x1_4.1]) (by kernel_rfl) (by kernel_rfl) (frS 0 (M := [Q4, Q2, ⟨e29 x0_1.1, 7, false⟩]) (rs := [0]) (ms := []) (mv := []) (mm := []) (D := [0]) (xs' := [.ptr 0 4 0, .str a0, n29 x0_1.1, n29 x1_4.1]) (.refl) ((hF.i47_ok a0 x0_1.1 x1_4.1 a1 a2 x1_4.2 a4).2 h) trivial trivial (by kernel_rfl)) (by kernel_rfl) (qA1 (l' := (opsAt i48p2).toList.drop 7) (eE := ((13, .top) :: (12, n29 x1_4.1) :: E2)) (hs := [(mkH [Q4, Q2, ⟨e29 x0_1.1, 7, false⟩])]) (by kernel_rfl) (by kernel_rfl) (.nil))))) (by kernel_rfl) (by kernel_rfl)
  ·let E2 : Env := [(11, .ptr 0 4 0), (10, n29 x0_1.1), (9, .str a0), (8, .ptr 0 4 0), (5, .ptr 2 7 0), (7, n29 x0_1.1), (6, .ptr 0 4 0), (4, .ptr 1 7 0), (0, .ptr 0 4 0), (1, .str a0)]
   let Q5 : Blk := ⟨[.str a1, w34 a2, .i x1_5.2, .i a4], 4, false⟩
   let Q6 : Blk := ⟨[.str a1, w34 a2, .i x1_4.2, .i a4], 4, false⟩
   let K1 : List Blk := [Q5, ⟨e29 x1_5.1, 7, false⟩, ⟨e29 x0_1.1, 7, false⟩]
   refine oD (H' := (mkH K1)) (nav [0] i48p2) ((13, n29 x1_5.1) :: (12, n29 x1_4.1) :: E2) [(mkH [Q6, Q2, ⟨e29 x0_1.1, 7, false⟩]), (mkH [Q5, Q2, ⟨e29 x0_1.1, 7, false⟩]), (mkH K1)] i48d0 (oDr 4 4 E2 (qA5 (l' := (opsAt i48p2).toList.drop 5) (eE := ((12, n29 x1_4.1) :: E2)) (hs := [(mkH [Q6, Q2, ⟨e29 x0_1.1, 7, false⟩])]) (H' := (mkH [Q6, Q2, ⟨e29 x0_1.1, 7, false⟩])) (fi := 109) (args := [.ptr 0 4 0]) (v := n29 x1_4.1) (by kernel_rfl) (frC (rs := [0]) (ms := []) (ms' := []) ((hF.i49_ok a1 a2 x0_1.2 a4).1 x1_4 hx1_4) trivial trivial (by kernel_rfl)) (by kernel_rfl) (qA5 (l' := (opsAt i48p2).toList.drop 6) (eE := ((13, n29 x1_5.1) :: (12, n29 x1_4.1) :: E2)) (hs := [(mkH [Q5, Q2, ⟨e29 x0_1.1, 7, false⟩])]) (H' := (mkH [Q5, Q2, ⟨e29 x0_1.1, 7, false⟩])) (fi := 108) (args := [.ptr 0 4 0, .str a0, n29 x0_1.1, n29 x1_4.1]) (v := n29 x1_5.1) (by kernel_rfl) (frC (rs := [0]) (ms := []) (ms' := []) ((hF.i47_ok a0 x0_1.1 x1_4.1 a1 a2 x1_4.2 a4).1 x1_5 hx1_5) trivial trivial (by kernel_rfl)) (by kernel_rfl) (oDh 1 7 ((13, n29 x1_5.1) :: (12, n29 x1_4.1) :: E2) (mkH K1) [(mkH K1)] .nil)))) ?_
   exact oQF 1 K1 1 [] [n29 x1_5.1] (n29 x1_5.1) .ps trivial
theorem i48B_ok (k : Nat) (F : Fns0) (hF : FnsOk0 F) : Pi48 (i48B k F) := fun a0 a1 a2 a3 a4 => ⟨fun x h => qJu k F hF a0 a1 a2 a3 a4 (some x) h, fun h => ⟨_, qJu k F hF a0 a1 a2 a3 a4 none h⟩⟩
def i49p1 : Pt := nav [0, 0, 0, 0] (nav [0] (bodyAt Try.f109))
def i49p2 : Pt := nav [0, 0] i49p1
def i49p3 : Pt := nav [1, 0] i49p2
def i49B (k : Nat) (F : Fns0) (a0 : (List Nat)) (a1 : (List S33)) (a2 : Int) (a3 : Int) : Option (Option (S28 × Int)) :=
 bT (i7 k ([119, 104, 101, 110] : List Nat) a0 a1 a2 a3) fun x0_1 => if x0_1.1 then (bT (F.i50 a0 a1 x0_1.2 a3) fun x1_1 => some (some (x1_1.1, x1_1.2))) else (some (some ((⟨(24 : Int), ([] : List Nat), ⟨0, []⟩, false, false, ([] : List (List Nat)), ([] : List (List Nat))⟩ : S28), x0_1.2)))
theorem qJt (k : Nat) (F : Fns0) (hF : FnsOk0 F) : ∀ a0 a1 a2 a3 r, i49B k F a0 a1 a2 a3 = some r → CallT Try.prog 109 [.ptr 0 4 0] (mkH [⟨[.str a0, w34 a1, .i a2, .i a3], 4, false⟩]) ((Xi49 a0 a1 a2 a3).thr r) ((Xi49 a0 a1 a2 a3).enc r) ((Xi49 a0 a1 a2 a3).fin r) := by
 intro a0 a1 a2 a3 r h
 refine qA2 (Xi49 a0 a1 a2 a3) Try.func109 (by kernel_rfl) (by kernel_rfl) rfl (t := i49B k F a0 a1 a2 a3) ?_ h
 unfold i49B
 refine qA (eE := [(0, .ptr 0 4 0)]) (by kernel_rfl) ?_
 let Q1 : Blk := ⟨[.i 0, .str [], .nils, .bool false, .bool false, .nils, .nils], 0, false⟩
 refine oH 8 (atN 1 (ctl1 i49p1)) [(3, .ptr 0 4 0), (2, .ptr 1 7 0), (0, .ptr 0 4 0)] (mkH [⟨[.str a0, w34 a1, .i a2, .i a3], 4, false⟩, Q1]) ?_
 refine oX (fun (x0_1 : (Bool × Int)) => .bool x0_1.1) (fun x0_1 => [⟨[.str a0, w34 a1, .i x0_1.2, .i a3], 4, false⟩, Q1]) (atN 2 (ctl1 i49p1)) 4 [0] [] [] [] [] [.ptr 0 4 0, .str [119, 104, 101, 110]] (qAf k ([119, 104, 101, 110] : List Nat) a0 a1 a2 a3) trivial (fun _ => trivial) trivial fun x0_1 hx0_1 => ?_
 refine oR 1 i49p2 [(4, .bool x0_1.1), (3, .ptr 0 4 0), (2, .ptr 1 7 0), (0, .ptr 0 4 0)] ?_
 refine oS 4 (fun hb => ?_) (fun hb => ?_)
 ·refine oR 4 (atN 1 (ctl1 i49p3)) [(5, .ptr 0 4 0), (4, .bool true), (4, .bool x0_1.1), (3, .ptr 0 4 0), (2, .ptr 1 7 0), (0, .ptr 0 4 0)] ?_
  refine oX (fun (x1_1 : (S28 × Int)) => n29 x1_1.1) (fun x1_1 => [⟨[.str a0, w34 a1, .i x1_1.2, .i a3], 4, false⟩, Q1]) (atN 2 (ctl1 i49p3)) 6 [0] [] [] [0] [] [.ptr 0 4 0] (hF.i50_ok a0 a1 x0_1.2 a3) trivial (fun _ => trivial) trivial fun x1_1 hx1_1 => ?_
  exact oQF 3 [⟨[.str a0, w34 a1, .i x1_1.2, .i a3], 4, false⟩, ⟨e29 x1_1.1, 7, false⟩] 1 [] [n29 x1_1.1] (n29 x1_1.1) .ps trivial
 ·exact oQF 8 [⟨[.str a0, w34 a1, .i x0_1.2, .i a3], 4, false⟩, ⟨[.i 24, .str [], .nils, .bool false, .bool false, .nils, .nils], 7, false⟩] 1 [] [.agg [.i 24, .str [], .nils, .bool false, .bool false, .nils, .nils]] (.agg [.i 24, .str [], .vec 0 7 [], .bool false, .bool false, .vec 0 1 [], .vec 0 1 []]) (.agg (.cs (.cs (.nil (.cs (.cs (.nil (.nil .ps))))))) .ps) trivial
theorem i49B_ok (k : Nat) (F : Fns0) (hF : FnsOk0 F) : Pi49 (i49B k F) := fun a0 a1 a2 a3 => ⟨fun x h => qJt k F hF a0 a1 a2 a3 (some x) h, fun h => ⟨_, qJt k F hF a0 a1 a2 a3 none h⟩⟩
def i5p1 : Pt := nav [0, 0, 0, 0] (nav [0] (bodyAt Try.f29))
def i5p2 : Pt := nav [0, 0] i5p1
def i5p3 : Pt := nav [1, 0] i5p2
def i5p4 : Pt := nav [2, 0, 0] i5p2
def i5p6 : Pt := nav [0, 0, 0, 0, 0] i5p4
def i5p8 : Pt := nav [0, 0] (nav [0, 0, 0] i5p6)
def i5p9 : Pt := nav [1, 0, 0, 0] i5p8
def i5p10 : Pt := nav [2, 0, 0] i5p8
def i5p11 : Pt := nav [0, 0, 0] i5p9
def i5p12 : Pt := nav [0, 0, 0, 0] i5p11
def i5p13 : Pt := nav [0, 0] i5p12
def i5p14 : Pt := nav [2, 0, 0] i5p13
def i5p15 : Pt := nav [0, 0] i5p14
def i5d0 : DP := ⟨[59], [(0, 0, 0), (1, 0, 2), (0, 0, 2), (0, 0, 0), (0, 0, 0), (16, 0, 0), (48, 0, 0), (120, 0, 0), (252, 0, 0), (511, 0, 0), (0, 0, 0), (1023, 0, 0), (4095, 0, 0)], 13, thrown, [], H0⟩
def qGz (k : Nat) (F : Fns0)  (a0 : Int) (a1 : (List Nat)) (a2 : (List S33)) (a3 : Int) (a4 : Int) (ih : Int → Int → S28 → Option (Option (S28 × Int))) : Int → Int → S28 → Option (Option (S28 × Int)) :=
 fun (y9_0 : Int) (y9_1 : Int) (y9_2 : S28) => jn (fun (z11 : Int × S28) => some (some (z11.2, z11.1))) (fun j11 => if (decide (a0 ≤ 9)) then ((i9 k a1 a2 y9_1 a4).bind fun x3_1 => (g50 k x3_1.f1).bind fun x4_2 => (i10 k x3_1.f1 a1 a2 y9_1 a4).bind fun x5_3 => jn (fun (z10 : Bool × Int × S28) => if z10.1 then (j11 (z10.2.1, z10.2.2)) else (bT (i11 k a1 a2 z10.2.1 a4) fun x6_1 => (g54 k x3_1.f1).bind fun x7_6 => bT (F.i5 x7_6 a1 a2 x6_1 a4) fun x7_7 => ih x4_2 x7_7.2 (⟨14, x3_1.f1, (⟨(([z10.2.2, x7_7.1] : List S28)).length, (([z10.2.2, x7_7.1] : List S28)).flatMap e29⟩ : Raw), false, false, ([] : List (List Nat)), ([] : List (List Nat))⟩ : S28))) (fun j10 => if (!x5_3) then (j10 (true, y9_1, y9_2)) else (if (decide (x4_2 < maxI a0 1)) then (j10 (true, y9_1, y9_2)) else ((g52 k x3_1.f1).bind fun x5_15 => j10 (decide (y9_0 < x5_15), y9_1, y9_2))))) else (j11 (y9_1, y9_2)))
def qN0 (k : Nat) (F : Fns0)  (a0 : Int) (a1 : (List Nat)) (a2 : (List S33)) (a3 : Int) (a4 : Int) (n : Nat) : Int → Int → S28 → Option (Option (S28 × Int)) := lp (fun _ _ _ => none) (qGz k F a0 a1 a2 a3 a4) n
theorem i5_l9_ok (k : Nat) (F : Fns0) (hF : FnsOk0 F) (a0 : Int) (a1 : (List Nat)) (a2 : (List S33)) (a3 : Int) (a4 : Int)    : ∀ (n : Nat) (y9_0 : Int) (y9_1 : Int) (y9_2 : S28), Ok (Xi5 a0 a1 a2 a3 a4) i5p6 [(0, .ptr 0 4 0), (1, .i a0), (4, .ptr 1 7 0), (5, .ptr 2 7 0), (6, .i y9_0)] (mkH [⟨[.str a1, w34 a2, .i y9_1, .i a4], 4, false⟩, ⟨[.i 0, .str [], .nils, .bool false, .bool false, .nils, .nils], 0, false⟩, ⟨[.i y9_2.f0, .str y9_2.f1, q29 y9_2.f2, .bool y9_2.f3, .bool y9_2.f4, w9 y9_2.f5, w9 y9_2.f6], 7, false⟩]) (qN0 k F a0 a1 a2 a3 a4 n y9_0 y9_1 y9_2) := by
 intro n
 induction n with
 | zero => intro y9_0 y9_1 y9_2; exact ok_none
 | succ n ih =>
  intro y9_0 y9_1 y9_2
  show Ok _ _ _ _ (qGz k F a0 a1 a2 a3 a4 (qN0 k F a0 a1 a2 a3 a4 n) y9_0 y9_1 y9_2)
  unfold qGz
  refine qAg (p' := nav [0] i5p6) (by kernel_rfl) ?_
  let E6 : Env := [(25, .bool (decide (a0 ≤ 9))), (24, .i a0), (0, .ptr 0 4 0), (1, .i a0), (4, .ptr 1 7 0), (5, .ptr 2 7 0), (6, .i y9_0)]
  let Q1 : Blk := ⟨[.str a1, w34 a2, .i y9_1, .i a4], 4, false⟩
  let Q2 : Blk := ⟨[.i 0, .str [], .nils, .bool false, .bool false, .nils, .nils], 0, false⟩
  refine oH 6 i5p8 E6 (mkH [Q1, Q2, ⟨e29 y9_2, 7, false⟩]) ?_
  refine oJ i5p10 (fun (z11 : Int × S28) => [(4, .ptr 1 7 0), (5, .ptr 2 7 0)]) (fun (z11 : Int × S28) => (mkH [⟨[.str a1, w34 a2, .i z11.1, .i a4], 4, false⟩, Q2, ⟨e29 z11.2, 7, false⟩])) (fun z11 => ?_) (fun j11 hj11 => ?_)
  ·exact oQF 5 [⟨[.str a1, w34 a2, .i z11.1, .i a4], 4, false⟩, ⟨e29 z11.2, 7, false⟩, ⟨e29 z11.2, 7, false⟩] 1 [] [n29 z11.2] (n29 z11.2) .ps trivial
  ·refine oS 25 (fun hb => ?_) (fun hb => ?_)
   ·refine oH 6 (atN 1 (ctl1 i5p9)) ((26, .ptr 0 4 0) :: (25, .bool true) :: E6) (mkH [Q1, Q2, ⟨e29 y9_2, 7, false⟩]) ?_
    refine oN (fun (x3_1 : S33) => n34 x3_1) (fun x3_1 => [Q1, Q2, ⟨e29 y9_2, 7, false⟩]) (atN 2 (ctl1 i5p9)) 27 [0] [] [] [.ptr 0 4 0] (qL5 k a1 a2 y9_1 a4) trivial (fun _ => trivial) fun x3_1 hx3_1 => ?_
    let E7 : Env := ((29, .str x3_1.f1) :: (28, .ptr 3 3 1) :: (7, .ptr 3 3 0) :: (27, n34 x3_1) :: (26, .ptr 0 4 0) :: (25, .bool true) :: E6)
    let K1 : List Blk := [Q1, Q2, ⟨e29 y9_2, 7, false⟩, ⟨e34 x3_1, 3, false⟩]
    refine oH 7 (atN 2 (ctl1 i5p11)) E7 (mkH K1) ?_
    refine oA (fun (x4_2 : Int) => .i x4_2) (atN 3 (ctl1 i5p11)) 30 [.str x3_1.f1] (qF0 k x3_1.f1) fun x4_2 hx4_2 => ?_
    refine oR 4 i5p12 ((8, .i x4_2) :: (30, .i x4_2) :: E7) ?_
    refine oK0 [0, 1, 4, 5, 6, 7, 8] ?_
    let E8 : Env := keepOnly ((8, .i x4_2) :: (30, .i x4_2) :: E7) [0, 1, 4, 5, 6, 7, 8]
    refine oR 4 (atN 3 (ctl1 i5p12)) ((33, .str x3_1.f1) :: (32, .ptr 3 3 1) :: (31, .ptr 0 4 0) :: E8) ?_
    refine oN (fun (x5_3 : Bool) => .bool x5_3) (fun x5_3 => K1) (atN 4 (ctl1 i5p12)) 34 [0] [] [] [.ptr 0 4 0, .str x3_1.f1] (qH2 k x3_1.f1 a1 a2 y9_1 a4) trivial (fun _ => trivial) fun x5_3 hx5_3 => ?_
    let E9 : Env := ((36, .bool (!x5_3)) :: (35, .bool (!x5_3)) :: (34, .bool x5_3) :: (33, .str x3_1.f1) :: (32, .ptr 3 3 1) :: (31, .ptr 0 4 0) :: E8)
    refine oR 2 (atN 6 (ctl1 i5p12)) E9 ?_
    refine oJ i5p13 (fun (z10 : Bool × Int × S28) => [(0, .ptr 0 4 0), (1, .i a0), (4, .ptr 1 7 0), (5, .ptr 2 7 0), (7, .ptr 3 3 0), (8, .i x4_2), (48, .bool z10.1)]) (fun (z10 : Bool × Int × S28) => (mkH [⟨[.str a1, w34 a2, .i z10.2.1, .i a4], 4, false⟩, Q2, ⟨e29 z10.2.2, 7, false⟩, ⟨e34 x3_1, 3, false⟩])) (fun z10 => ?_) (fun j10 hj10 => ?_)
    ·refine oS 48 (fun hb => ?_) (fun hb => ?_)
     ·let Q3 : Blk := ⟨[.str a1, w34 a2, .i z10.2.1, .i a4], 4, false⟩
      refine oLH 3 i5p10 [(4, .ptr 1 7 0), (5, .ptr 2 7 0)] (mkH [Q3, Q2, ⟨e29 z10.2.2, 7, false⟩, ⟨e34 x3_1, 3, false⟩]) ?_
      refine qAa [Q3, Q2, ⟨e29 z10.2.2, 7, false⟩] [⟨e34 x3_1, 3, false⟩] (by kernel_rfl) rfl (by kernel_rfl) ⟨(by kernel_rfl), ⟨(by kernel_rfl), ⟨(by kernel_rfl), trivial⟩⟩⟩ ?_
      exact hj11 (z10.2.1, z10.2.2)
     ·let E12 : Env := [(49, .ptr 0 4 0), (48, .bool false), (0, .ptr 0 4 0), (1, .i a0), (4, .ptr 1 7 0), (5, .ptr 2 7 0), (7, .ptr 3 3 0), (8, .i x4_2), (48, .bool z10.1)]
      refine oH 5 (atN 1 (ctl1 i5p14)) E12 (mkH [⟨[.str a1, w34 a2, .i z10.2.1, .i a4], 4, false⟩, Q2, ⟨e29 z10.2.2, 7, false⟩, ⟨e34 x3_1, 3, false⟩]) ?_
      refine oX (fun (x6_1 : Int) => .tuple []) (fun x6_1 => [⟨[.str a1, w34 a2, .i x6_1, .i a4], 4, false⟩, Q2, ⟨e29 z10.2.2, 7, false⟩, ⟨e34 x3_1, 3, false⟩]) (atN 2 (ctl1 i5p14)) 50 [0] [] [] [] [] [.ptr 0 4 0] (qEw k a1 a2 z10.2.1 a4) trivial (fun _ => trivial) trivial fun x6_1 hx6_1 => ?_
      refine oR 1 i5p15 ((50, .tuple []) :: E12) ?_
      refine qA8 (fun x7_6 hx7_6 => ?_)
      refine qC2 (fun h => ?_) (fun x7_7 hx7_7 => ?_)
      ·let E13 : Env := [(56, .str x3_1.f1), (55, .ptr 3 3 1), (54, .ptr 0 4 0), (53, n29 z10.2.2), (52, .str x3_1.f1), (51, .ptr 3 3 1), (50, .tuple []), (49, .ptr 0 4 0), (48, .bool false), (0, .ptr 0 4 0), (1, .i a0), (4, .ptr 1 7 0), (5, .ptr 2 7 0), (7, .ptr 3 3 0), (8, .i x4_2), (48, .bool z10.1)]
       let E14 : Env := ((61, .i x4_2) :: (60, .top) :: (59, .top) :: (58, .top) :: (57, .i x7_6) :: E13)
       let K2 : List Blk := [⟨[.str a1, w34 a2, .i x6_1, .i a4], 4, false⟩, Q2, ⟨e29 z10.2.2, 7, false⟩, ⟨e34 x3_1, 3, false⟩]
       exact qAj (eE := ((6, .top) :: E14)) (i5d0.th 7 thrown [0] (mkH K2)) (hs := [(mkH K2), (mkH K2), (mkH K2)]) (LX := [⟨[.str a1, w34 a2, .i a3, .i a4], 4, false⟩]) (L := K2) rfl rfl rfl (by kernel_rfl) rfl ⟨.inl rfl, trivial⟩ (by kernel_rfl) (by kernel_rfl) (by kernel_rfl) (by kernel_rfl) (qA9 6 (l' := (opsAt i5p15).toList.drop 6) (eE := E13) (H' := (mkH K2)) (hs := []) (by kernel_rfl) (qAr (l' := (opsAt i5p15).toList.drop 7) (eE := ((57, .i x7_6) :: E13)) (hs := [(mkH K2)]) (fi := 54) (args := [.str x3_1.f1]) (v := .i x7_6) (by kernel_rfl) (by kernel_rfl) (by kernel_rfl) (g54_ok k x3_1.f1 x7_6 hx7_6) (by kernel_rfl) (qAi (l' := (opsAt i5p15).toList.drop 8) (eE := ((58, .top) :: (57, .i x7_6) :: E13)) (hs := [(mkH K2)]) (fi := 29) (args := [.ptr 0 4 0, .i x7_6]) (by kernel_rfl) (by kernel_rfl) (frS 0 (M := K2) (rs := [0]) (ms := []) (mv := []) (mm := []) (D := [0]) (xs' := [.ptr 0 4 0, .i x7_6]) (.refl) ((hF.i5_ok x7_6 a1 a2 x6_1 a4).2 h) trivial trivial (by kernel_rfl)) (by kernel_rfl) (qA1 (l' := (opsAt i5p15).toList.drop 9) (eE := ((59, .top) :: (58, .top) :: (57, .i x7_6) :: E13)) (hs := []) (by kernel_rfl) (by kernel_rfl) (qA1 (l' := (opsAt i5p15).toList.drop 10) (eE := ((60, .top) :: (59, .top) :: (58, .top) :: (57, .i x7_6) :: E13)) (hs := []) (by kernel_rfl) (by kernel_rfl) (qA9 1 (l' := (opsAt i5p15).toList.drop 11) (eE := E14) (H' := (mkH K2)) (hs := []) (by kernel_rfl) (qA1 (l' := (opsAt i5p15).toList.drop 12) (eE := E14) (hs := [(mkH K2)]) (by kernel_rfl) (by kernel_rfl) (qA1 (l' := (opsAt i5p15).toList.drop 13) (eE := ((6, .top) :: E14)) (hs := []) (by kernel_rfl) (by kernel_rfl) (.nil))))))))) (by kernel_rfl) (by kernel_rfl)
      ·let E13 : Env := [(56, .str x3_1.f1), (55, .ptr 3 3 1), (54, .ptr 0 4 0), (53, n29 z10.2.2), (52, .str x3_1.f1), (51, .ptr 3 3 1), (50, .tuple []), (49, .ptr 0 4 0), (48, .bool false), (0, .ptr 0 4 0), (1, .i a0), (4, .ptr 1 7 0), (5, .ptr 2 7 0), (7, .ptr 3 3 0), (8, .i x4_2), (48, .bool z10.1)]
       let E15 : Env := ((6, .i x4_2) :: (61, .i x4_2) :: (60, .agg [.i 14, .str x3_1.f1, w29 ([z10.2.2, x7_7.1] : List S28), .bool false, .bool false, .nils, .nils]) :: (59, w29 ([z10.2.2, x7_7.1] : List S28)) :: (58, n29 x7_7.1) :: (57, .i x7_6) :: E13)
       let Q5 : Blk := ⟨[.str a1, w34 a2, .i x7_7.2, .i a4], 4, false⟩
       let Q6 : Blk := ⟨[.i 14, .str x3_1.f1, w29 ([z10.2.2, x7_7.1] : List S28), .bool false, .bool false, .nils, .nils], 7, false⟩
       let K3 : List Blk := [⟨[.str a1, w34 a2, .i x6_1, .i a4], 4, false⟩, Q2, ⟨e29 z10.2.2, 7, false⟩, ⟨e34 x3_1, 3, false⟩]
       let K4 : List Blk := [Q5, Q2, ⟨e29 z10.2.2, 7, false⟩, ⟨e34 x3_1, 3, false⟩]
       refine oD (H' := (mkH [Q5, Q2, Q6, ⟨e34 x3_1, 3, false⟩])) (nav [0] i5p15) E15 [(mkH K3), (mkH K4), (mkH [Q5, Q2, Q6, ⟨e34 x3_1, 3, false⟩])] i5d0 (oDr 6 6 E13 (qAr (l' := (opsAt i5p15).toList.drop 7) (eE := ((57, .i x7_6) :: E13)) (hs := [(mkH K3)]) (fi := 54) (args := [.str x3_1.f1]) (v := .i x7_6) (by kernel_rfl) (by kernel_rfl) (by kernel_rfl) (g54_ok k x3_1.f1 x7_6 hx7_6) (by kernel_rfl) (qA5 (l' := (opsAt i5p15).toList.drop 8) (eE := ((58, n29 x7_7.1) :: (57, .i x7_6) :: E13)) (hs := [(mkH K4)]) (H' := (mkH K4)) (fi := 29) (args := [.ptr 0 4 0, .i x7_6]) (v := n29 x7_7.1) (by kernel_rfl) (frC (rs := [0]) (ms := []) (ms' := []) ((hF.i5_ok x7_6 a1 a2 x6_1 a4).1 x7_7 hx7_7) trivial trivial (by kernel_rfl)) (by kernel_rfl) (oDh 5 13 E15 (mkH [Q5, Q2, Q6, ⟨e34 x3_1, 3, false⟩]) [(mkH [Q5, Q2, Q6, ⟨e34 x3_1, 3, false⟩])] .nil)))) ?_
       refine qCu [Q5, Q2, Q6, ⟨e34 x3_1, 3, false⟩] 2 7 [.i 14, .str x3_1.f1, w29 ([z10.2.2, x7_7.1] : List S28), .bool false, .bool false, .nils, .nils] [.i 14, .str x3_1.f1, w29 ([z10.2.2, x7_7.1] : List S28), .bool false, .bool false, w9 ([] : List (List Nat)), w9 ([] : List (List Nat))] (by kernel_rfl) rfl (.cons (.cons (.cons (.cons (.cons (.nil (.nil (.refl)))))))) ?_
       let Q8 : Blk := ⟨[.i 14, .str x3_1.f1, w29 ([z10.2.2, x7_7.1] : List S28), .bool false, .bool false, w9 ([] : List (List Nat)), w9 ([] : List (List Nat))], 7, false⟩
       refine oHp (mkH [Q5, Q2, Q8, ⟨e34 x3_1, 3, false⟩]) ?_
       refine oK [0, 1, 4, 5, 6] [(0, .ptr 0 4 0), (1, .i a0), (4, .ptr 1 7 0), (5, .ptr 2 7 0), (6, .i x4_2)] ?_
       refine qAa [Q5, Q2, Q8] [⟨e34 x3_1, 3, false⟩] (by kernel_rfl) rfl (by kernel_rfl) ⟨(by kernel_rfl), ⟨(by kernel_rfl), ⟨(by kernel_rfl), trivial⟩⟩⟩ ?_
       exact ih x4_2 x7_7.2 (⟨14, x3_1.f1, (⟨(([z10.2.2, x7_7.1] : List S28)).length, (([z10.2.2, x7_7.1] : List S28)).flatMap e29⟩ : Raw), false, false, ([] : List (List Nat)), ([] : List (List Nat))⟩ : S28)
    ·refine oS 36 (fun hb => ?_) (fun hb => ?_)
     ·refine oLH 13 i5p13 [(0, .ptr 0 4 0), (1, .i a0), (4, .ptr 1 7 0), (5, .ptr 2 7 0), (7, .ptr 3 3 0), (8, .i x4_2), (48, .bool true)] (mkH K1) ?_
      exact hj10 (true, y9_1, y9_2)
     ·let E19 : Env := ((42, .bool (decide (x4_2 < maxI a0 1))) :: (41, .bool (decide (x4_2 < maxI a0 1))) :: (40, .bool (decide (x4_2 < maxI a0 1))) :: (39, .i (maxI a0 1)) :: (38, .i a0) :: (37, .i x4_2) :: (36, .bool false) :: E9)
      refine oH 6 (atN 12 (ctl1 i5p12)) E19 (mkH K1) ?_
      refine oS 42 (fun hb => ?_) (fun hb => ?_)
      ·refine oL 7 i5p13 [(0, .ptr 0 4 0), (1, .i a0), (4, .ptr 1 7 0), (5, .ptr 2 7 0), (7, .ptr 3 3 0), (8, .i x4_2), (48, .bool true)] ?_
       exact hj10 (true, y9_1, y9_2)
      ·refine oR 3 (atN 15 (ctl1 i5p12)) ((45, .str x3_1.f1) :: (44, .ptr 3 3 1) :: (43, .i y9_0) :: (42, .bool false) :: E19) ?_
       refine oA (fun (x5_15 : Int) => .i x5_15) (atN 16 (ctl1 i5p12)) 46 [.str x3_1.f1] (g52_ok k x3_1.f1) fun x5_15 hx5_15 => ?_
       refine oL 3 i5p13 [(0, .ptr 0 4 0), (1, .i a0), (4, .ptr 1 7 0), (5, .ptr 2 7 0), (7, .ptr 3 3 0), (8, .i x4_2), (48, .bool (decide (y9_0 < x5_15)))] ?_
       exact hj10 (decide (y9_0 < x5_15), y9_1, y9_2)
   ·refine oLH 3 i5p10 [(4, .ptr 1 7 0), (5, .ptr 2 7 0)] (mkH [Q1, Q2, ⟨e29 y9_2, 7, false⟩]) ?_
    exact hj11 (y9_1, y9_2)
def i5B (k : Nat) (F : Fns0) (a0 : Int) (a1 : (List Nat)) (a2 : (List S33)) (a3 : Int) (a4 : Int) : Option (Option (S28 × Int)) :=
 jn (fun (z8 : Bool × Int) => if z8.1 then (bT (F.i5 (0 : Int) a1 a2 z8.2 a4) fun x1_1 => some (some ((⟨(13 : Int), ([99, 97, 116, 99, 104] : List Nat), ⟨(([x1_1.1] : List S28)).length, (([x1_1.1] : List S28)).flatMap e29⟩, false, false, ([] : List (List Nat)), ([] : List (List Nat))⟩ : S28), x1_1.2))) else (bT (F.i8 a1 a2 z8.2 a4) fun x2_1 => qN0 k F a0 a1 a2 a3 a4 k x2_1.2.1 x2_1.2.2 x2_1.1)) (fun j8 => if (decide (a0 ≤ 0)) then (bT (i7 k ([99, 97, 116, 99, 104] : List Nat) a1 a2 a3 a4) fun x0_4 => j8 (x0_4.1, x0_4.2)) else (j8 (false, a3)))
theorem qN1 (k : Nat) (F : Fns0) (hF : FnsOk0 F) : ∀ a0 a1 a2 a3 a4 r, i5B k F a0 a1 a2 a3 a4 = some r → CallT Try.prog 29 [.ptr 0 4 0, .i a0] (mkH [⟨[.str a1, w34 a2, .i a3, .i a4], 4, false⟩]) ((Xi5 a0 a1 a2 a3 a4).thr r) ((Xi5 a0 a1 a2 a3 a4).enc r) ((Xi5 a0 a1 a2 a3 a4).fin r) := by
 intro a0 a1 a2 a3 a4 r h
 refine qA2 (Xi5 a0 a1 a2 a3 a4) Try.func29 (by kernel_rfl) (by kernel_rfl) rfl (t := i5B k F a0 a1 a2 a3 a4) ?_ h
 unfold i5B
 refine qA (eE := [(0, .ptr 0 4 0), (1, .i a0)]) (by kernel_rfl) ?_
 let E1 : Env := [(11, .bool (decide (a0 ≤ 0))), (10, .bool (decide (a0 ≤ 0))), (9, .i a0), (4, .ptr 1 7 0), (0, .ptr 0 4 0), (1, .i a0)]
 let Q1 : Blk := ⟨[.str a1, w34 a2, .i a3, .i a4], 4, false⟩
 let Q2 : Blk := ⟨[.i 0, .str [], .nils, .bool false, .bool false, .nils, .nils], 0, false⟩
 refine oH 10 (atN 3 (ctl1 i5p1)) E1 (mkH [Q1, Q2]) ?_
 refine oJ i5p2 (fun (z8 : Bool × Int) => [(0, .ptr 0 4 0), (1, .i a0), (4, .ptr 1 7 0), (14, .bool z8.1)]) (fun (z8 : Bool × Int) => (mkH [⟨[.str a1, w34 a2, .i z8.2, .i a4], 4, false⟩, Q2])) (fun z8 => ?_) (fun j8 hj8 => ?_)
 ·refine oS 14 (fun hb => ?_) (fun hb => ?_)
  ·let E2 : Env := [(15, .ptr 0 4 0), (14, .bool true), (0, .ptr 0 4 0), (1, .i a0), (4, .ptr 1 7 0), (14, .bool z8.1)]
   refine oH 4 (atN 1 (ctl1 i5p3)) E2 (mkH [⟨[.str a1, w34 a2, .i z8.2, .i a4], 4, false⟩, Q2]) ?_
   refine oX (fun (x1_1 : (S28 × Int)) => n29 x1_1.1) (fun x1_1 => [⟨[.str a1, w34 a2, .i x1_1.2, .i a4], 4, false⟩, Q2]) (atN 2 (ctl1 i5p3)) 16 [0] [] [] [0] [] [.ptr 0 4 0, .i 0] (hF.i5_ok (0 : Int) a1 a2 z8.2 a4) trivial (fun _ => trivial) trivial fun x1_1 hx1_1 => ?_
   let Q3 : Blk := ⟨[.str a1, w34 a2, .i x1_1.2, .i a4], 4, false⟩
   refine oH 1 (atN 3 (ctl1 i5p3)) ((17, .slice 2 7 0 1 7) :: (16, n29 x1_1.1) :: E2) (mkH [Q3, Q2, ⟨e29 x1_1.1, 0, false⟩]) ?_
   refine oZ 17 2 1 7 [.i x1_1.1.f0, .str x1_1.1.f1, q29 x1_1.1.f2, .bool x1_1.1.f3, .bool x1_1.1.f4, w9 x1_1.1.f5, w9 x1_1.1.f6] [0, 1, 4, 14, 15, 16] [] trivial ?_
   exact oQF 4 [Q3, ⟨[.i 13, .str [99, 97, 116, 99, 104], w29 ([x1_1.1] : List S28), .bool false, .bool false, .nils, .nils], 7, false⟩, ⟨[], 0, false⟩] 1 [] [.agg [.i 13, .str [99, 97, 116, 99, 104], w29 ([x1_1.1] : List S28), .bool false, .bool false, .nils, .nils]] (.agg [.i 13, .str [99, 97, 116, 99, 104], w29 ([x1_1.1] : List S28), .bool false, .bool false, .vec 0 1 [], .vec 0 1 []]) (.agg (.cs (.cs (.cs (.cs (.cs (.nil (.nil .ps))))))) .ps) trivial
  ·refine oH 5 (atN 1 (ctl1 i5p4)) [(20, .ptr 0 4 0), (14, .bool false), (0, .ptr 0 4 0), (1, .i a0), (4, .ptr 1 7 0), (14, .bool z8.1)] (mkH [⟨[.str a1, w34 a2, .i z8.2, .i a4], 4, false⟩, Q2]) ?_
   refine oX (fun (x2_1 : Ri8) => .tuple [n29 x2_1.1, .i x2_1.2.1]) (fun x2_1 => [⟨[.str a1, w34 a2, .i x2_1.2.2, .i a4], 4, false⟩, Q2]) (atN 2 (ctl1 i5p4)) 21 [0] [] [] [0] [] [.ptr 0 4 0] (hF.i8_ok a1 a2 z8.2 a4) trivial (fun _ => trivial) trivial fun x2_1 hx2_1 => ?_
   refine oLH 10 i5p6 [(0, .ptr 0 4 0), (1, .i a0), (4, .ptr 1 7 0), (5, .ptr 2 7 0), (6, .i x2_1.2.1)] (mkH [⟨[.str a1, w34 a2, .i x2_1.2.2, .i a4], 4, false⟩, Q2, ⟨e29 x2_1.1, 7, false⟩]) ?_
   exact (i5_l9_ok k F hF a0 a1 a2 a3 a4 k) x2_1.2.1 x2_1.2.2 x2_1.1
 ·refine oS 11 (fun hb => ?_) (fun hb => ?_)
  ·refine oH 1 (atN 4 (ctl1 i5p1)) ((12, .ptr 0 4 0) :: (11, .bool true) :: E1) (mkH [Q1, Q2]) ?_
   refine oX (fun (x0_4 : (Bool × Int)) => .bool x0_4.1) (fun x0_4 => [⟨[.str a1, w34 a2, .i x0_4.2, .i a4], 4, false⟩, Q2]) (atN 5 (ctl1 i5p1)) 13 [0] [] [] [] [] [.ptr 0 4 0, .str [99, 97, 116, 99, 104]] (qAf k ([99, 97, 116, 99, 104] : List Nat) a1 a2 a3 a4) trivial (fun _ => trivial) trivial fun x0_4 hx0_4 => ?_
   refine oL 2 i5p2 [(0, .ptr 0 4 0), (1, .i a0), (4, .ptr 1 7 0), (14, .bool x0_4.1)] ?_
   exact hj8 (x0_4.1, x0_4.2)
  ·refine oLH 4 i5p2 [(0, .ptr 0 4 0), (1, .i a0), (4, .ptr 1 7 0), (14, .bool false)] (mkH [Q1, Q2]) ?_
   exact hj8 (false, a3)
theorem i5B_ok (k : Nat) (F : Fns0) (hF : FnsOk0 F) : Pi5 (i5B k F) := fun a0 a1 a2 a3 a4 => ⟨fun x h => qN1 k F hF a0 a1 a2 a3 a4 (some x) h, fun h => ⟨_, qN1 k F hF a0 a1 a2 a3 a4 none h⟩⟩
def i50p1 : Pt := nav [0, 0, 0] (nav [0] (bodyAt Try.f110))
def i50p2 : Pt := nav [0, 0, 0, 0, 0] i50p1
def i50p3 : Pt := nav [0, 0, 0] i50p2
def i50p4 : Pt := nav [0, 0] i50p3
def i50p5 : Pt := nav [1, 0, 0] i50p4
def i50d0 : DP := ⟨[14], [(0, 0, 0), (1, 0, 1), (0, 0, 0), (4, 0, 0), (12, 0, 0), (31, 0, 0), (63, 0, 0), (127, 0, 0)], 8, thrown, [], H0⟩
def qHv (k : Nat) (F : Fns0)  (a0 : (List Nat)) (a1 : (List S33)) (a2 : Int) (a3 : Int) (ih : Int → (List S28) → Option (Option (S28 × Int))) : Int → (List S28) → Option (Option (S28 × Int)) :=
 fun (y3_0 : Int) (y3_1 : (List S28)) => bT (i7 k ([59] : List Nat) a0 a1 y3_0 a3) fun x1_1 => if x1_1.1 then (bT (F.i52 a0 a1 x1_1.2 a3) fun x2_3 => (appS 104 y3_1 ([x2_3.1] : List S28)).bind fun x2_5 => ih x2_3.2 x2_5) else (some (some ((⟨(24 : Int), ([] : List Nat), ⟨(y3_1).length, (y3_1).flatMap e29⟩, false, false, ([] : List (List Nat)), ([] : List (List Nat))⟩ : S28), x1_1.2)))
def qN5 (k : Nat) (F : Fns0)  (a0 : (List Nat)) (a1 : (List S33)) (a2 : Int) (a3 : Int) (n : Nat) : Int → (List S28) → Option (Option (S28 × Int)) := lp (fun _ _ => none) (qHv k F a0 a1 a2 a3) n
theorem qN4 (k : Nat) (F : Fns0) (hF : FnsOk0 F) (a0 : (List Nat)) (a1 : (List S33)) (a2 : Int) (a3 : Int)    : ∀ (n : Nat) (y3_0 : Int) (y3_1 : (List S28)), Ok (Xi50 a0 a1 a2 a3) i50p2 [(0, .ptr 0 4 0), (2, .ptr 1 7 0), (3, .ptr 3 7 0)] (mkH [⟨[.str a0, w34 a1, .i y3_0, .i a3], 4, false⟩, ⟨[.i 0, .str [], .nils, .bool false, .bool false, .nils, .nils], 0, false⟩, ⟨(y3_1).flatMap e29, 0, false⟩, ⟨[.i 24, .str [], .own 2 (y3_1).length 7, .bool false, .bool false, .nils, .nils], 7, false⟩]) (qN5 k F a0 a1 a2 a3 n y3_0 y3_1) := by
 intro n
 induction n with
 | zero => intro y3_0 y3_1; exact ok_none
 | succ n ih =>
  intro y3_0 y3_1
  show Ok _ _ _ _ (qHv k F a0 a1 a2 a3 (qN5 k F a0 a1 a2 a3 n) y3_0 y3_1)
  unfold qHv
  refine qAg (p' := nav [0] i50p2) (by kernel_rfl) ?_
  let Q1 : Blk := ⟨[.i 0, .str [], .nils, .bool false, .bool false, .nils, .nils], 0, false⟩
  let Q2 : Blk := ⟨(y3_1).flatMap e29, 0, false⟩
  let Q3 : Blk := ⟨[.i 24, .str [], .own 2 (y3_1).length 7, .bool false, .bool false, .nils, .nils], 7, false⟩
  refine oH 4 (atN 1 (ctl1 i50p3)) [(8, .ptr 0 4 0), (0, .ptr 0 4 0), (2, .ptr 1 7 0), (3, .ptr 3 7 0)] (mkH [⟨[.str a0, w34 a1, .i y3_0, .i a3], 4, false⟩, Q1, Q2, Q3]) ?_
  refine oX (fun (x1_1 : (Bool × Int)) => .bool x1_1.1) (fun x1_1 => [⟨[.str a0, w34 a1, .i x1_1.2, .i a3], 4, false⟩, Q1, Q2, Q3]) (atN 2 (ctl1 i50p3)) 9 [0] [] [] [3] [0, 0, 1] [.ptr 0 4 0, .str [59]] (qAf k ([59] : List Nat) a0 a1 y3_0 a3) trivial (fun _ => trivial) ⟨u29 _, trivial⟩ fun x1_1 hx1_1 => ?_
  let E2 : Env := [(9, .bool x1_1.1), (8, .ptr 0 4 0), (0, .ptr 0 4 0), (2, .ptr 1 7 0), (3, .ptr 3 7 0)]
  refine oR 1 i50p4 E2 ?_
  refine oS 9 (fun hb => ?_) (fun hb => ?_)
  ·refine oR 3 i50p5 ((9, .bool true) :: E2) ?_
   refine qC2 (fun h => ?_) (fun x2_3 hx2_3 => ?_)
   ·let E3 : Env := [(12, .ptr 0 4 0), (11, .own 2 (y3_1).length 7), (10, .ptr 3 7 2), (9, .bool true), (9, .bool x1_1.1), (8, .ptr 0 4 0), (0, .ptr 0 4 0), (2, .ptr 1 7 0), (3, .ptr 3 7 0)]
    let Q4 : Blk := ⟨[.str a0, w34 a1, .i x1_1.2, .i a3], 4, false⟩
    exact qAj (eE := ((16, .top) :: (15, .top) :: (14, .top) :: (13, .top) :: E3)) (i50d0.th 3 thrown [0, 3] (mkH [Q4, Q1, Q2, Q3])) (hs := [(mkH [Q4, Q1, Q2, Q3]), (mkH [Q4, Q1, Q2, Q3]), (mkH [Q4, Q1, Q2, Q3])]) (LX := [⟨[.str a0, w34 a1, .i a2, .i a3], 4, false⟩]) (L := [Q4, Q1, Q2, Q3]) rfl rfl rfl (by kernel_rfl) rfl ⟨.inl rfl, trivial⟩ (by kernel_rfl) (by kernel_rfl) (by kernel_rfl) (by kernel_rfl) (qA9 3 (l' := (opsAt i50p5).toList.drop 3) (eE := E3) (H' := (mkH [Q4, Q1, Q2, Q3])) (hs := []) (by kernel_rfl) (qAi (l' := (opsAt i50p5).toList.drop 4) (eE := ((13, .top) :: E3)) (hs := [(mkH [Q4, Q1, Q2, Q3])]) (fi := 113) (args := [.ptr 0 4 0]) (by kernel_rfl) (by kernel_rfl) (frS 0 (M := [Q4, Q1, Q2, Q3]) (rs := [0]) (ms := []) (mv := [0, 0, 1]) (mm := [0, 0, 1]) (D := [0, 3]) (xs' := [.ptr 0 4 0]) (.refl) ((hF.i52_ok a0 a1 x1_1.2 a3).2 h) trivial ⟨u29 _, trivial⟩ (by kernel_rfl)) (by kernel_rfl) (qA1 (l' := (opsAt i50p5).toList.drop 5) (eE := ((14, .top) :: (13, .top) :: E3)) (hs := []) (by kernel_rfl) (by kernel_rfl) (qA1 (l' := (opsAt i50p5).toList.drop 6) (eE := ((15, .top) :: (14, .top) :: (13, .top) :: E3)) (hs := [(mkH [Q4, Q1, Q2, Q3])]) (by kernel_rfl) (by kernel_rfl) (qA1 (l' := (opsAt i50p5).toList.drop 7) (eE := ((16, .top) :: (15, .top) :: (14, .top) :: (13, .top) :: E3)) (hs := []) (by kernel_rfl) (by kernel_rfl) (qA1 (l' := (opsAt i50p5).toList.drop 8) (eE := ((16, .top) :: (15, .top) :: (14, .top) :: (13, .top) :: E3)) (hs := [(mkH [Q4, Q1, Q2, Q3])]) (by kernel_rfl) (by kernel_rfl) (.nil))))))) (by kernel_rfl) (by kernel_rfl)
   ·refine qA8 (fun x2_5 hx2_5 => ?_)
    let E3 : Env := [(12, .ptr 0 4 0), (11, .own 2 (y3_1).length 7), (10, .ptr 3 7 2), (9, .bool true), (9, .bool x1_1.1), (8, .ptr 0 4 0), (0, .ptr 0 4 0), (2, .ptr 1 7 0), (3, .ptr 3 7 0)]
    let Q5 : Blk := ⟨[.str a0, w34 a1, .i x2_3.2, .i a3], 4, false⟩
    refine oD (H' := (mkH [Q5, Q1, ⟨(x2_5).flatMap e29, 0, false⟩, ⟨[.i 24, .str [], .own 2 (x2_5).length 7, .bool false, .bool false, .nils, .nils], 7, false⟩])) (nav [0] i50p5) ((16, .ptr 3 7 2) :: (15, .own 2 (x2_5).length 7) :: (14, w29 ([x2_3.1] : List S28)) :: (13, n29 x2_3.1) :: E3) [(mkH [Q5, Q1, Q2, Q3]), (mkH [Q5, Q1, ⟨(x2_5).flatMap e29, 0, false⟩, Q3]), (mkH [Q5, Q1, ⟨(x2_5).flatMap e29, 0, false⟩, ⟨[.i 24, .str [], .own 2 (x2_5).length 7, .bool false, .bool false, .nils, .nils], 7, false⟩])] i50d0 (oDr 3 3 E3 (qA5 (l' := (opsAt i50p5).toList.drop 4) (eE := ((13, n29 x2_3.1) :: E3)) (hs := [(mkH [Q5, Q1, Q2, Q3])]) (H' := (mkH [Q5, Q1, Q2, Q3])) (fi := 113) (args := [.ptr 0 4 0]) (v := n29 x2_3.1) (by kernel_rfl) (frC (rs := [0]) (ms := []) (ms' := []) ((hF.i52_ok a0 a1 x1_1.2 a3).1 x2_3 hx2_3) trivial trivial (by kernel_rfl)) (by kernel_rfl) (oDr 1 5 ((14, w29 ([x2_3.1] : List S28)) :: (13, n29 x2_3.1) :: E3) (qA4 (l' := (opsAt i50p5).toList.drop 6) (eE := ((15, .own 2 (x2_5).length 7) :: (14, w29 ([x2_3.1] : List S28)) :: (13, n29 x2_3.1) :: E3)) (hs := [(mkH [Q5, Q1, ⟨(x2_5).flatMap e29, 0, false⟩, Q3])]) (x := x2_5) (fun (x2_5 : (List S28)) => (.own 2 (x2_5).length 7, (mkH [Q5, Q1, ⟨(x2_5).flatMap e29, 0, false⟩, Q3]))) (appHV (sz := 7) qA7 rfl qAu [Q5, Q1, Q2, Q3] 2 104 y3_1 ([x2_3.1] : List S28) rfl rfl (by kernel_rfl)) hx2_5 (by kernel_rfl) (oDh 2 8 ((16, .ptr 3 7 2) :: (15, .own 2 (x2_5).length 7) :: (14, w29 ([x2_3.1] : List S28)) :: (13, n29 x2_3.1) :: E3) (mkH [Q5, Q1, ⟨(x2_5).flatMap e29, 0, false⟩, ⟨[.i 24, .str [], .own 2 (x2_5).length 7, .bool false, .bool false, .nils, .nils], 7, false⟩]) [(mkH [Q5, Q1, ⟨(x2_5).flatMap e29, 0, false⟩, ⟨[.i 24, .str [], .own 2 (x2_5).length 7, .bool false, .bool false, .nils, .nils], 7, false⟩])] .nil))))) ?_
    refine oK [0, 2, 3] [(0, .ptr 0 4 0), (2, .ptr 1 7 0), (3, .ptr 3 7 0)] ?_
    exact ih x2_3.2 x2_5
  ·exact oQF 8 [⟨[.str a0, w34 a1, .i x1_1.2, .i a3], 4, false⟩, Q3, Q2, Q3] 1 [] [.agg [.i 24, .str [], .own 2 (y3_1).length 7, .bool false, .bool false, .nils, .nils]] (.agg [.i 24, .str [], w29 y3_1, .bool false, .bool false, .vec 0 1 [], .vec 0 1 []]) (.agg (.cs (.cs (qAp qA7 qAe rfl rfl rfl (.cs (.cs (.nil (.nil .ps))))))) .ps) trivial
def i50B (k : Nat) (F : Fns0) (a0 : (List Nat)) (a1 : (List S33)) (a2 : Int) (a3 : Int) : Option (Option (S28 × Int)) :=
 bT (F.i52 a0 a1 a2 a3) fun x0_1 => qN5 k F a0 a1 a2 a3 k x0_1.2 ([x0_1.1] : List S28)
theorem qJs (k : Nat) (F : Fns0) (hF : FnsOk0 F) : ∀ a0 a1 a2 a3 r, i50B k F a0 a1 a2 a3 = some r → CallT Try.prog 110 [.ptr 0 4 0] (mkH [⟨[.str a0, w34 a1, .i a2, .i a3], 4, false⟩]) ((Xi50 a0 a1 a2 a3).thr r) ((Xi50 a0 a1 a2 a3).enc r) ((Xi50 a0 a1 a2 a3).fin r) := by
 intro a0 a1 a2 a3 r h
 refine qA2 (Xi50 a0 a1 a2 a3) Try.func110 (by kernel_rfl) (by kernel_rfl) rfl (t := i50B k F a0 a1 a2 a3) ?_ h
 unfold i50B
 refine qA (eE := [(0, .ptr 0 4 0)]) (by kernel_rfl) ?_
 let Q1 : Blk := ⟨[.i 0, .str [], .nils, .bool false, .bool false, .nils, .nils], 0, false⟩
 refine oH 7 (atN 1 (ctl1 i50p1)) [(4, .ptr 0 4 0), (2, .ptr 1 7 0), (0, .ptr 0 4 0)] (mkH [⟨[.str a0, w34 a1, .i a2, .i a3], 4, false⟩, Q1]) ?_
 refine oX (fun (x0_1 : (S28 × Int)) => n29 x0_1.1) (fun x0_1 => [⟨[.str a0, w34 a1, .i x0_1.2, .i a3], 4, false⟩, Q1]) (atN 2 (ctl1 i50p1)) 5 [0] [] [] [0] [] [.ptr 0 4 0] (hF.i52_ok a0 a1 a2 a3) trivial (fun _ => trivial) trivial fun x0_1 hx0_1 => ?_
 let Q2 : Blk := ⟨[.str a0, w34 a1, .i x0_1.2, .i a3], 4, false⟩
 refine oH 1 (atN 3 (ctl1 i50p1)) [(6, .slice 2 7 0 1 7), (5, n29 x0_1.1), (4, .ptr 0 4 0), (2, .ptr 1 7 0), (0, .ptr 0 4 0)] (mkH [Q2, Q1, ⟨e29 x0_1.1, 0, false⟩]) ?_
 refine qCm 6 2 7 1 7 (by kernel_rfl) rfl ?_
 refine oLH 7 i50p2 [(0, .ptr 0 4 0), (2, .ptr 1 7 0), (3, .ptr 3 7 0)] (mkH [Q2, Q1, ⟨(([x0_1.1] : List S28)).flatMap e29, 0, false⟩, ⟨[.i 24, .str [], .own 2 (([x0_1.1] : List S28)).length 7, .bool false, .bool false, .nils, .nils], 7, false⟩]) ?_
 exact (qN4 k F hF a0 a1 a2 a3 k) x0_1.2 ([x0_1.1] : List S28)
theorem i50B_ok (k : Nat) (F : Fns0) (hF : FnsOk0 F) : Pi50 (i50B k F) := fun a0 a1 a2 a3 => ⟨fun x h => qJs k F hF a0 a1 a2 a3 (some x) h, fun h => ⟨_, qJs k F hF a0 a1 a2 a3 none h⟩⟩
def i51p1 : Pt := nav [0, 0, 0] (nav [0] (bodyAt Try.f112))
def i51p2 : Pt := nav [0, 0, 0] i51p1
def i51B (k : Nat) (F : Fns0) (a0 : (List Nat)) (a1 : (List S33)) (a2 : Int) (a3 : Int) : Option (Option (S28 × Int)) :=
 bT (i23 k ([40] : List Nat) a0 a1 a2 a3) fun x0_1 => bT (F.i18 (23 : Int) ([] : List Nat) false false ([] : List (List Nat)) ([] : List (List Nat)) ([41] : List Nat) a0 a1 x0_1 a3 ([] : List S28)) fun x1_4 => some (some ((⟨x1_4.1, x1_4.2.1, ⟨(x1_4.2.2.2.2.2.2.2).length, (x1_4.2.2.2.2.2.2.2).flatMap e29⟩, x1_4.2.2.1, x1_4.2.2.2.1, x1_4.2.2.2.2.1, x1_4.2.2.2.2.2.1⟩ : S28), x1_4.2.2.2.2.2.2.1))
theorem qJr (k : Nat) (F : Fns0) (hF : FnsOk0 F) : ∀ a0 a1 a2 a3 r, i51B k F a0 a1 a2 a3 = some r → CallT Try.prog 112 [.ptr 0 4 0] (mkH [⟨[.str a0, w34 a1, .i a2, .i a3], 4, false⟩]) ((Xi51 a0 a1 a2 a3).thr r) ((Xi51 a0 a1 a2 a3).enc r) ((Xi51 a0 a1 a2 a3).fin r) := by
 intro a0 a1 a2 a3 r h
 refine qA2 (Xi51 a0 a1 a2 a3) Try.func112 (by kernel_rfl) (by kernel_rfl) rfl (t := i51B k F a0 a1 a2 a3) ?_ h
 unfold i51B
 refine qA (eE := [(0, .ptr 0 4 0)]) (by kernel_rfl) ?_
 let Q1 : Blk := ⟨[.i 0, .str [], .nils, .bool false, .bool false, .nils, .nils], 0, false⟩
 refine oH 7 (atN 1 (ctl1 i51p1)) [(3, .ptr 0 4 0), (2, .ptr 1 7 0), (0, .ptr 0 4 0)] (mkH [⟨[.str a0, w34 a1, .i a2, .i a3], 4, false⟩, Q1]) ?_
 refine oX (fun (x0_1 : Int) => .tuple []) (fun x0_1 => [⟨[.str a0, w34 a1, .i x0_1, .i a3], 4, false⟩, Q1]) (atN 2 (ctl1 i51p1)) 4 [0] [] [] [0] [] [.ptr 0 4 0, .str [40]] (qAt k ([40] : List Nat) a0 a1 a2 a3) trivial (fun _ => trivial) trivial fun x0_1 hx0_1 => ?_
 refine oR 7 (atN 4 (ctl1 i51p2)) [(8, .func 78 [.ptr 0 4 0] []), (7, .ptr 0 4 0), (6, .agg [.i 23, .str [], .nils, .bool false, .bool false, .nils, .nils]), (5, .ptr 0 4 0), (4, .tuple []), (3, .ptr 0 4 0), (2, .ptr 1 7 0), (0, .ptr 0 4 0)] ?_
 refine oXW 1 [⟨[.str a0, w34 a1, .i x0_1, .i a3], 4, false⟩, Q1, ⟨(([] : List S28)).flatMap e29, 0, false⟩] (fun (x1_4 : Ri18) => .agg [.i x1_4.1, .str x1_4.2.1, .own 2 (x1_4.2.2.2.2.2.2.2).length 7, .bool x1_4.2.2.1, .bool x1_4.2.2.2.1, w9 x1_4.2.2.2.2.1, w9 x1_4.2.2.2.2.2.1]) (fun x1_4 => [⟨[.str a0, w34 a1, .i x1_4.2.2.2.2.2.2.1, .i a3], 4, false⟩, Q1, ⟨(x1_4.2.2.2.2.2.2.2).flatMap e29, 0, false⟩]) (atN 5 (ctl1 i51p2)) 9 [0, 2] [0, 1] [0, 1] [0, 2] [] [0, 0, 1] [.ptr 0 4 0, .agg [.i 23, .str [], .nils, .bool false, .bool false, .nils, .nils], .str [41], .func 78 [.ptr 0 4 0] []] [.ptr 0 4 0, .agg [.i 23, .str [], .own 2 (([] : List S28)).length 7, .bool false, .bool false, w9 ([] : List (List Nat)), w9 ([] : List (List Nat))], .str [41], .func 78 [.ptr 0 4 0] []] (.cons (.agg (.cons (.cons (.none (.cons (.cons (.nil (.nil (.refl)))))))) (.refl))) (hF.i18_ok (23 : Int) ([] : List Nat) false false ([] : List (List Nat)) ([] : List (List Nat)) ([41] : List Nat) a0 a1 x0_1 a3 ([] : List S28)) ⟨u29 _, trivial⟩ (fun _ => ⟨u29 _, trivial⟩) trivial fun x1_4 hx1_4 => ?_
 exact oQF 3 [⟨[.str a0, w34 a1, .i x1_4.2.2.2.2.2.2.1, .i a3], 4, false⟩, ⟨[.i x1_4.1, .str x1_4.2.1, .own 2 (x1_4.2.2.2.2.2.2.2).length 7, .bool x1_4.2.2.1, .bool x1_4.2.2.2.1, w9 x1_4.2.2.2.2.1, w9 x1_4.2.2.2.2.2.1], 7, false⟩, ⟨(x1_4.2.2.2.2.2.2.2).flatMap e29, 0, false⟩] 1 [] [.agg [.i x1_4.1, .str x1_4.2.1, .own 2 (x1_4.2.2.2.2.2.2.2).length 7, .bool x1_4.2.2.1, .bool x1_4.2.2.2.1, w9 x1_4.2.2.2.2.1, w9 x1_4.2.2.2.2.2.1]] (.agg [.i x1_4.1, .str x1_4.2.1, w29 x1_4.2.2.2.2.2.2.2, .bool x1_4.2.2.1, .bool x1_4.2.2.2.1, w9 x1_4.2.2.2.2.1, w9 x1_4.2.2.2.2.2.1]) (.agg (.cs (.cs (qAp qA7 qAe rfl rfl rfl .ps))) .ps) trivial
theorem i51B_ok (k : Nat) (F : Fns0) (hF : FnsOk0 F) : Pi51 (i51B k F) := fun a0 a1 a2 a3 => ⟨fun x h => qJr k F hF a0 a1 a2 a3 (some x) h, fun h => ⟨_, qJr k F hF a0 a1 a2 a3 none h⟩⟩
def i52p1 : Pt := nav [0, 0, 0] (nav [0] (bodyAt Try.f113))
def i52p2 : Pt := nav [0, 0, 0, 0, 0] i52p1
def i52p3 : Pt := nav [0, 0, 0] i52p2
def i52p4 : Pt := nav [0, 0] i52p3
def i52p5 : Pt := nav [1, 0, 0] i52p4
def i52d0 : DP := ⟨[14], [(0, 0, 0), (1, 0, 1), (0, 0, 0), (4, 0, 0), (12, 0, 0), (31, 0, 0), (63, 0, 0), (127, 0, 0)], 8, thrown, [], H0⟩
def qHu (k : Nat) (F : Fns0)  (a0 : (List Nat)) (a1 : (List S33)) (a2 : Int) (a3 : Int) (ih : Int → (List S28) → Option (Option (S28 × Int))) : Int → (List S28) → Option (Option (S28 × Int)) :=
 fun (y3_0 : Int) (y3_1 : (List S28)) => bT (i7 k ([44] : List Nat) a0 a1 y3_0 a3) fun x1_1 => if x1_1.1 then (bT (F.i5 (1 : Int) a0 a1 x1_1.2 a3) fun x2_3 => (appS 104 y3_1 ([x2_3.1] : List S28)).bind fun x2_5 => ih x2_3.2 x2_5) else (some (some ((⟨(25 : Int), ([] : List Nat), ⟨(y3_1).length, (y3_1).flatMap e29⟩, false, false, ([] : List (List Nat)), ([] : List (List Nat))⟩ : S28), x1_1.2)))
def qN3 (k : Nat) (F : Fns0)  (a0 : (List Nat)) (a1 : (List S33)) (a2 : Int) (a3 : Int) (n : Nat) : Int → (List S28) → Option (Option (S28 × Int)) := lp (fun _ _ => none) (qHu k F a0 a1 a2 a3) n
theorem qN2 (k : Nat) (F : Fns0) (hF : FnsOk0 F) (a0 : (List Nat)) (a1 : (List S33)) (a2 : Int) (a3 : Int)    : ∀ (n : Nat) (y3_0 : Int) (y3_1 : (List S28)), Ok (Xi52 a0 a1 a2 a3) i52p2 [(0, .ptr 0 4 0), (2, .ptr 1 7 0), (3, .ptr 3 7 0)] (mkH [⟨[.str a0, w34 a1, .i y3_0, .i a3], 4, false⟩, ⟨[.i 0, .str [], .nils, .bool false, .bool false, .nils, .nils], 0, false⟩, ⟨(y3_1).flatMap e29, 0, false⟩, ⟨[.i 25, .str [], .own 2 (y3_1).length 7, .bool false, .bool false, .nils, .nils], 7, false⟩]) (qN3 k F a0 a1 a2 a3 n y3_0 y3_1) := by
 intro n
 induction n with
 | zero => intro y3_0 y3_1; exact ok_none
 | succ n ih =>
  intro y3_0 y3_1
  show Ok _ _ _ _ (qHu k F a0 a1 a2 a3 (qN3 k F a0 a1 a2 a3 n) y3_0 y3_1)
  unfold qHu
  refine qAg (p' := nav [0] i52p2) (by kernel_rfl) ?_
  let Q1 : Blk := ⟨[.i 0, .str [], .nils, .bool false, .bool false, .nils, .nils], 0, false⟩
  let Q2 : Blk := ⟨(y3_1).flatMap e29, 0, false⟩
  let Q3 : Blk := ⟨[.i 25, .str [], .own 2 (y3_1).length 7, .bool false, .bool false, .nils, .nils], 7, false⟩
  refine oH 4 (atN 1 (ctl1 i52p3)) [(8, .ptr 0 4 0), (0, .ptr 0 4 0), (2, .ptr 1 7 0), (3, .ptr 3 7 0)] (mkH [⟨[.str a0, w34 a1, .i y3_0, .i a3], 4, false⟩, Q1, Q2, Q3]) ?_
  refine oX (fun (x1_1 : (Bool × Int)) => .bool x1_1.1) (fun x1_1 => [⟨[.str a0, w34 a1, .i x1_1.2, .i a3], 4, false⟩, Q1, Q2, Q3]) (atN 2 (ctl1 i52p3)) 9 [0] [] [] [3] [0, 0, 1] [.ptr 0 4 0, .str [44]] (qAf k ([44] : List Nat) a0 a1 y3_0 a3) trivial (fun _ => trivial) ⟨u29 _, trivial⟩ fun x1_1 hx1_1 => ?_
  let E2 : Env := [(9, .bool x1_1.1), (8, .ptr 0 4 0), (0, .ptr 0 4 0), (2, .ptr 1 7 0), (3, .ptr 3 7 0)]
  refine oR 1 i52p4 E2 ?_
  refine oS 9 (fun hb => ?_) (fun hb => ?_)
  ·refine oR 3 i52p5 ((9, .bool true) :: E2) ?_
   refine qC2 (fun h => ?_) (fun x2_3 hx2_3 => ?_)
   ·let E3 : Env := [(12, .ptr 0 4 0), (11, .own 2 (y3_1).length 7), (10, .ptr 3 7 2), (9, .bool true), (9, .bool x1_1.1), (8, .ptr 0 4 0), (0, .ptr 0 4 0), (2, .ptr 1 7 0), (3, .ptr 3 7 0)]
    let Q4 : Blk := ⟨[.str a0, w34 a1, .i x1_1.2, .i a3], 4, false⟩
    exact qAj (eE := ((16, .top) :: (15, .top) :: (14, .top) :: (13, .top) :: E3)) (i52d0.th 3 thrown [0, 3] (mkH [Q4, Q1, Q2, Q3])) (hs := [(mkH [Q4, Q1, Q2, Q3]), (mkH [Q4, Q1, Q2, Q3]), (mkH [Q4, Q1, Q2, Q3])]) (LX := [⟨[.str a0, w34 a1, .i a2, .i a3], 4, false⟩]) (L := [Q4, Q1, Q2, Q3]) rfl rfl rfl (by kernel_rfl) rfl ⟨.inl rfl, trivial⟩ (by kernel_rfl) (by kernel_rfl) (by kernel_rfl) (by kernel_rfl) (qA9 3 (l' := (opsAt i52p5).toList.drop 3) (eE := E3) (H' := (mkH [Q4, Q1, Q2, Q3])) (hs := []) (by kernel_rfl) (qAi (l' := (opsAt i52p5).toList.drop 4) (eE := ((13, .top) :: E3)) (hs := [(mkH [Q4, Q1, Q2, Q3])]) (fi := 29) (args := [.ptr 0 4 0, .i 1]) (by kernel_rfl) (by kernel_rfl) (frS 0 (M := [Q4, Q1, Q2, Q3]) (rs := [0]) (ms := []) (mv := [0, 0, 1]) (mm := [0, 0, 1]) (D := [0, 3]) (xs' := [.ptr 0 4 0, .i 1]) (.refl) ((hF.i5_ok (1 : Int) a0 a1 x1_1.2 a3).2 h) trivial ⟨u29 _, trivial⟩ (by kernel_rfl)) (by kernel_rfl) (qA1 (l' := (opsAt i52p5).toList.drop 5) (eE := ((14, .top) :: (13, .top) :: E3)) (hs := []) (by kernel_rfl) (by kernel_rfl) (qA1 (l' := (opsAt i52p5).toList.drop 6) (eE := ((15, .top) :: (14, .top) :: (13, .top) :: E3)) (hs := [(mkH [Q4, Q1, Q2, Q3])]) (by kernel_rfl) (by kernel_rfl) (qA1 (l' := (opsAt i52p5).toList.drop 7) (eE := ((16, .top) :: (15, .top) :: (14, .top) :: (13, .top) :: E3)) (hs := []) (by kernel_rfl) (by kernel_rfl) (qA1 (l' := (opsAt i52p5).toList.drop 8) (eE := ((16, .top) :: (15, .top) :: (14, .top) :: (13, .top) :: E3)) (hs := [(mkH [Q4, Q1, Q2, Q3])]) (by kernel_rfl) (by kernel_rfl) (.nil))))))) (by kernel_rfl) (by kernel_rfl)
   ·refine qA8 (fun x2_5 hx2_5 => ?_)
    let E3 : Env := [(12, .ptr 0 4 0), (11, .own 2 (y3_1).length 7), (10, .ptr 3 7 2), (9, .bool true), (9, .bool x1_1.1), (8, .ptr 0 4 0), (0, .ptr 0 4 0), (2, .ptr 1 7 0), (3, .ptr 3 7 0)]
    let Q5 : Blk := ⟨[.str a0, w34 a1, .i x2_3.2, .i a3], 4, false⟩
    refine oD (H' := (mkH [Q5, Q1, ⟨(x2_5).flatMap e29, 0, false⟩, ⟨[.i 25, .str [], .own 2 (x2_5).length 7, .bool false, .bool false, .nils, .nils], 7, false⟩])) (nav [0] i52p5) ((16, .ptr 3 7 2) :: (15, .own 2 (x2_5).length 7) :: (14, w29 ([x2_3.1] : List S28)) :: (13, n29 x2_3.1) :: E3) [(mkH [Q5, Q1, Q2, Q3]), (mkH [Q5, Q1, ⟨(x2_5).flatMap e29, 0, false⟩, Q3]), (mkH [Q5, Q1, ⟨(x2_5).flatMap e29, 0, false⟩, ⟨[.i 25, .str [], .own 2 (x2_5).length 7, .bool false, .bool false, .nils, .nils], 7, false⟩])] i52d0 (oDr 3 3 E3 (qA5 (l' := (opsAt i52p5).toList.drop 4) (eE := ((13, n29 x2_3.1) :: E3)) (hs := [(mkH [Q5, Q1, Q2, Q3])]) (H' := (mkH [Q5, Q1, Q2, Q3])) (fi := 29) (args := [.ptr 0 4 0, .i 1]) (v := n29 x2_3.1) (by kernel_rfl) (frC (rs := [0]) (ms := []) (ms' := []) ((hF.i5_ok (1 : Int) a0 a1 x1_1.2 a3).1 x2_3 hx2_3) trivial trivial (by kernel_rfl)) (by kernel_rfl) (oDr 1 5 ((14, w29 ([x2_3.1] : List S28)) :: (13, n29 x2_3.1) :: E3) (qA4 (l' := (opsAt i52p5).toList.drop 6) (eE := ((15, .own 2 (x2_5).length 7) :: (14, w29 ([x2_3.1] : List S28)) :: (13, n29 x2_3.1) :: E3)) (hs := [(mkH [Q5, Q1, ⟨(x2_5).flatMap e29, 0, false⟩, Q3])]) (x := x2_5) (fun (x2_5 : (List S28)) => (.own 2 (x2_5).length 7, (mkH [Q5, Q1, ⟨(x2_5).flatMap e29, 0, false⟩, Q3]))) (appHV (sz := 7) qA7 rfl qAu [Q5, Q1, Q2, Q3] 2 104 y3_1 ([x2_3.1] : List S28) rfl rfl (by kernel_rfl)) hx2_5 (by kernel_rfl) (oDh 2 8 ((16, .ptr 3 7 2) :: (15, .own 2 (x2_5).length 7) :: (14, w29 ([x2_3.1] : List S28)) :: (13, n29 x2_3.1) :: E3) (mkH [Q5, Q1, ⟨(x2_5).flatMap e29, 0, false⟩, ⟨[.i 25, .str [], .own 2 (x2_5).length 7, .bool false, .bool false, .nils, .nils], 7, false⟩]) [(mkH [Q5, Q1, ⟨(x2_5).flatMap e29, 0, false⟩, ⟨[.i 25, .str [], .own 2 (x2_5).length 7, .bool false, .bool false, .nils, .nils], 7, false⟩])] .nil))))) ?_
    refine oK [0, 2, 3] [(0, .ptr 0 4 0), (2, .ptr 1 7 0), (3, .ptr 3 7 0)] ?_
    exact ih x2_3.2 x2_5
  ·exact oQF 8 [⟨[.str a0, w34 a1, .i x1_1.2, .i a3], 4, false⟩, Q3, Q2, Q3] 1 [] [.agg [.i 25, .str [], .own 2 (y3_1).length 7, .bool false, .bool false, .nils, .nils]] (.agg [.i 25, .str [], w29 y3_1, .bool false, .bool false, .vec 0 1 [], .vec 0 1 []]) (.agg (.cs (.cs (qAp qA7 qAe rfl rfl rfl (.cs (.cs (.nil (.nil .ps))))))) .ps) trivial
def i52B (k : Nat) (F : Fns0) (a0 : (List Nat)) (a1 : (List S33)) (a2 : Int) (a3 : Int) : Option (Option (S28 × Int)) :=
 bT (F.i5 (1 : Int) a0 a1 a2 a3) fun x0_1 => qN3 k F a0 a1 a2 a3 k x0_1.2 ([x0_1.1] : List S28)
theorem qJq (k : Nat) (F : Fns0) (hF : FnsOk0 F) : ∀ a0 a1 a2 a3 r, i52B k F a0 a1 a2 a3 = some r → CallT Try.prog 113 [.ptr 0 4 0] (mkH [⟨[.str a0, w34 a1, .i a2, .i a3], 4, false⟩]) ((Xi52 a0 a1 a2 a3).thr r) ((Xi52 a0 a1 a2 a3).enc r) ((Xi52 a0 a1 a2 a3).fin r) := by
 intro a0 a1 a2 a3 r h
 refine qA2 (Xi52 a0 a1 a2 a3) Try.func113 (by kernel_rfl) (by kernel_rfl) rfl (t := i52B k F a0 a1 a2 a3) ?_ h
 unfold i52B
 refine qA (eE := [(0, .ptr 0 4 0)]) (by kernel_rfl) ?_
 let Q1 : Blk := ⟨[.i 0, .str [], .nils, .bool false, .bool false, .nils, .nils], 0, false⟩
 refine oH 7 (atN 1 (ctl1 i52p1)) [(4, .ptr 0 4 0), (2, .ptr 1 7 0), (0, .ptr 0 4 0)] (mkH [⟨[.str a0, w34 a1, .i a2, .i a3], 4, false⟩, Q1]) ?_
 refine oX (fun (x0_1 : (S28 × Int)) => n29 x0_1.1) (fun x0_1 => [⟨[.str a0, w34 a1, .i x0_1.2, .i a3], 4, false⟩, Q1]) (atN 2 (ctl1 i52p1)) 5 [0] [] [] [0] [] [.ptr 0 4 0, .i 1] (hF.i5_ok (1 : Int) a0 a1 a2 a3) trivial (fun _ => trivial) trivial fun x0_1 hx0_1 => ?_
 let Q2 : Blk := ⟨[.str a0, w34 a1, .i x0_1.2, .i a3], 4, false⟩
 refine oH 1 (atN 3 (ctl1 i52p1)) [(6, .slice 2 7 0 1 7), (5, n29 x0_1.1), (4, .ptr 0 4 0), (2, .ptr 1 7 0), (0, .ptr 0 4 0)] (mkH [Q2, Q1, ⟨e29 x0_1.1, 0, false⟩]) ?_
 refine qCm 6 2 7 1 7 (by kernel_rfl) rfl ?_
 refine oLH 7 i52p2 [(0, .ptr 0 4 0), (2, .ptr 1 7 0), (3, .ptr 3 7 0)] (mkH [Q2, Q1, ⟨(([x0_1.1] : List S28)).flatMap e29, 0, false⟩, ⟨[.i 25, .str [], .own 2 (([x0_1.1] : List S28)).length 7, .bool false, .bool false, .nils, .nils], 7, false⟩]) ?_
 exact (qN2 k F hF a0 a1 a2 a3 k) x0_1.2 ([x0_1.1] : List S28)
theorem i52B_ok (k : Nat) (F : Fns0) (hF : FnsOk0 F) : Pi52 (i52B k F) := fun a0 a1 a2 a3 => ⟨fun x h => qJq k F hF a0 a1 a2 a3 (some x) h, fun h => ⟨_, qJq k F hF a0 a1 a2 a3 none h⟩⟩
def i6p2 : Pt := nav [0, 0, 0, 0, 0] (nav [0, 0, 0, 0] (nav [0] (bodyAt Try.f35)))
def i6p3 : Pt := nav [0, 0] i6p2
def i6p4 : Pt := nav [0, 0, 0] i6p3
def i6p6 : Pt := nav [0, 0, 0] (nav [0, 0, 0] i6p4)
def i6p7 : Pt := nav [0, 0, 0, 0] i6p6
def i6d0 : DP := ⟨[], [(0, 0, 0), (1, 0, 0), (3, 0, 0), (7, 0, 0), (15, 0, 0), (31, 0, 0), (63, 0, 0), (127, 0, 0), (255, 0, 0), (31, 0, 0), (543, 0, 0), (1567, 0, 0), (3615, 0, 0), (31, 0, 0), (8223, 0, 0), (24607, 0, 0), (57375, 0, 0), (131071, 0, 0), (262143, 0, 0), (524287, 0, 0)], 20, thrown, [], H0⟩
def qGy (k : Nat) (F : Fns0)  (a0 : (List Nat)) (a1 : (List S33)) (a3 : Int) (ih : Int → (List S28) → Option (Option (S28 × Int))) : Int → (List S28) → Option (Option (S28 × Int)) :=
 fun (y5_0 : Int) (y5_1 : (List S28)) => jn (fun (z6 : Bool × Int × (List S28)) => (i12 k a0 a1 z6.2.1 a3).bind fun x1_1 => bT (F.i5 (0 : Int) a0 a1 x1_1.2 a3) fun x2_1 => (appS 104 z6.2.2 ([(⟨x2_1.1.f0, x2_1.1.f1, x2_1.1.f2, x2_1.1.f3, z6.1, x1_1.1, x2_1.1.f6⟩ : S28)] : List S28)).bind fun x3_4 => bT (i7 k ([44] : List Nat) a0 a1 x2_1.2 a3) fun x4_1 => if x4_1.1 then (ih x4_1.2 x3_4) else (some (some ((⟨(25 : Int), ([] : List Nat), ⟨(x3_4).length, (x3_4).flatMap e29⟩, false, false, ([] : List (List Nat)), ([] : List (List Nat))⟩ : S28), x4_1.2)))) (fun j6 => if (decide (0 < (y5_1.length : Int))) then ((g57 k a0 a1 y5_0).bind fun x0_17 => j6 (x0_17, y5_0, y5_1)) else (j6 (false, y5_0, y5_1)))
def qMz (k : Nat) (F : Fns0)  (a0 : (List Nat)) (a1 : (List S33)) (a3 : Int) (n : Nat) : Int → (List S28) → Option (Option (S28 × Int)) := lp (fun _ _ => none) (qGy k F a0 a1 a3) n
theorem i6_l5_ok (k : Nat) (F : Fns0) (hF : FnsOk0 F) (a0 : (List Nat)) (a1 : (List S33)) (a2 : Int) (a3 : Int)    : ∀ (n : Nat) (y5_0 : Int) (y5_1 : (List S28)), Ok (Xi6 a0 a1 a2 a3) i6p2 [(0, .ptr 0 4 0), (2, .ptr 1 7 0), (3, .ptr 2 7 0)] (mkH [⟨[.str a0, w34 a1, .i y5_0, .i a3], 4, false⟩, ⟨[.i 0, .str [], .nils, .bool false, .bool false, .nils, .nils], 0, false⟩, ⟨[.i 25, .str [], .own 3 (y5_1).length 7, .bool false, .bool false, .nils, .nils], 7, false⟩, ⟨(y5_1).flatMap e29, 0, false⟩]) (qMz k F a0 a1 a3 n y5_0 y5_1) := by
 intro n
 induction n with
 | zero => intro y5_0 y5_1; exact ok_none
 | succ n ih =>
  intro y5_0 y5_1
  show Ok _ _ _ _ (qGy k F a0 a1 a3 (qMz k F a0 a1 a3 n) y5_0 y5_1)
  unfold qGy
  let Q1 : Blk := ⟨[.i 0, .str [], .nils, .bool false, .bool false, .nils, .nils], 0, false⟩
  refine oJ i6p3 (fun (z6 : Bool × Int × (List S28)) => [(0, .ptr 0 4 0), (2, .ptr 1 7 0), (3, .ptr 2 7 0), (4, .bool z6.1)]) (fun (z6 : Bool × Int × (List S28)) => (mkH [⟨[.str a0, w34 a1, .i z6.2.1, .i a3], 4, false⟩, Q1, ⟨[.i 25, .str [], .own 3 (z6.2.2).length 7, .bool false, .bool false, .nils, .nils], 7, false⟩, ⟨(z6.2.2).flatMap e29, 0, false⟩])) (fun z6 => ?_) (fun j6 hj6 => ?_)
  ·let E1 : Env := [(27, .ptr 0 4 0), (0, .ptr 0 4 0), (2, .ptr 1 7 0), (3, .ptr 2 7 0), (4, .bool z6.1)]
   let Q2 : Blk := ⟨[.i 25, .str [], .own 3 (z6.2.2).length 7, .bool false, .bool false, .nils, .nils], 7, false⟩
   let Q3 : Blk := ⟨(z6.2.2).flatMap e29, 0, false⟩
   refine oH 2 (atN 1 (ctl1 i6p3)) E1 (mkH [⟨[.str a0, w34 a1, .i z6.2.1, .i a3], 4, false⟩, Q1, Q2, Q3]) ?_
   refine oN (fun (x1_1 : Ri12) => w9 x1_1.1) (fun x1_1 => [⟨[.str a0, w34 a1, .i x1_1.2, .i a3], 4, false⟩, Q1, Q2, Q3]) (atN 2 (ctl1 i6p3)) 28 [0] [] [] [.ptr 0 4 0] (qAh k a0 a1 z6.2.1 a3) trivial (fun _ => trivial) fun x1_1 hx1_1 => ?_
   refine oR 5 (atN 1 (ctl1 i6p4)) ((29, .ptr 0 4 0) :: (5, w9 x1_1.1) :: (28, w9 x1_1.1) :: E1) ?_
   refine oX (fun (x2_1 : (S28 × Int)) => n29 x2_1.1) (fun x2_1 => [⟨[.str a0, w34 a1, .i x2_1.2, .i a3], 4, false⟩, Q1, Q2, Q3]) (atN 2 (ctl1 i6p4)) 30 [0] [] [] [0, 2] [0, 0, 0, 1] [.ptr 0 4 0, .i 0] (hF.i5_ok (0 : Int) a0 a1 x1_1.2 a3) trivial (fun _ => trivial) ⟨u29 _, trivial⟩ fun x2_1 hx2_1 => ?_
   let E3 : Env := [(0, .ptr 0 4 0), (2, .ptr 1 7 0), (3, .ptr 2 7 0), (6, .ptr 4 7 0)]
   let Q4 : Blk := ⟨[.str a0, w34 a1, .i x2_1.2, .i a3], 4, false⟩
   let Q5 : Blk := ⟨[.i x2_1.1.f0, .str x2_1.1.f1, q29 x2_1.1.f2, .bool x2_1.1.f3, .bool z6.1, w9 x1_1.1, w9 x2_1.1.f6], 7, false⟩
   refine oLH 13 i6p6 E3 (mkH [Q4, Q1, Q2, Q3, Q5]) ?_
   let Q6 : Blk := ⟨[.i x2_1.1.f0, .str x2_1.1.f1, q29 x2_1.1.f2, .bool x2_1.1.f3, .bool z6.1, w9 x1_1.1, w9 x2_1.1.f6], 0, false⟩
   refine oH 5 (atN 4 (ctl1 i6p6)) ((38, .slice 5 7 0 1 7) :: (37, .agg [.i x2_1.1.f0, .str x2_1.1.f1, q29 x2_1.1.f2, .bool x2_1.1.f3, .bool z6.1, w9 x1_1.1, w9 x2_1.1.f6]) :: (36, .own 3 (z6.2.2).length 7) :: (35, .ptr 2 7 2) :: E3) (mkH [Q4, Q1, Q2, Q3, Q5, Q6]) ?_
   refine oC (fun (x3_4 : (List S28)) => (.own 3 (x3_4).length 7, (mkH [Q4, Q1, Q2, ⟨(x3_4).flatMap e29, 0, false⟩, Q5, Q6]))) (atN 5 (ctl1 i6p6)) 39 (appH (sz := 7) qA7 rfl qAu [Q4, Q1, Q2, Q3, Q5, Q6] 3 104 z6.2.2 ([(⟨x2_1.1.f0, x2_1.1.f1, x2_1.1.f2, x2_1.1.f3, z6.1, x1_1.1, x2_1.1.f6⟩ : S28)] : List S28) rfl rfl (by kernel_rfl)) fun x3_4 hx3_4 => ?_
   let E5 : Env := [(0, .ptr 0 4 0), (2, .ptr 1 7 0), (3, .ptr 2 7 0)]
   let Q7 : Blk := ⟨[.i 25, .str [], .own 3 (x3_4).length 7, .bool false, .bool false, .nils, .nils], 7, false⟩
   let Q8 : Blk := ⟨(x3_4).flatMap e29, 0, false⟩
   refine oLH 5 i6p7 E5 (mkH [Q4, Q1, Q7, Q8, Q5, Q6]) ?_
   refine oR 2 (atN 1 (ctl1 i6p7)) ((41, .ptr 0 4 0) :: E5) ?_
   refine oX (fun (x4_1 : (Bool × Int)) => .bool x4_1.1) (fun x4_1 => [⟨[.str a0, w34 a1, .i x4_1.2, .i a3], 4, false⟩, Q1, Q7, Q8, Q5, Q6]) (atN 2 (ctl1 i6p7)) 42 [0] [] [] [2] [0, 0, 0, 1] [.ptr 0 4 0, .str [44]] (qAf k ([44] : List Nat) a0 a1 x2_1.2 a3) trivial (fun _ => trivial) ⟨u29 _, trivial⟩ fun x4_1 hx4_1 => ?_
   refine oR 1 (nav [0, 0] i6p7) ((42, .bool x4_1.1) :: (41, .ptr 0 4 0) :: E5) ?_
   refine oS 42 (fun hb => ?_) (fun hb => ?_)
   ·refine oL 5 i6p2 [(0, .ptr 0 4 0), (2, .ptr 1 7 0), (3, .ptr 2 7 0)] ?_
    refine qAa [⟨[.str a0, w34 a1, .i x4_1.2, .i a3], 4, false⟩, Q1, Q7, Q8] [Q5, Q6] (by kernel_rfl) rfl (by kernel_rfl) ⟨(by kernel_rfl), ⟨(by kernel_rfl), ⟨(by kernel_rfl), ⟨(qA3 _ (u29 _)), trivial⟩⟩⟩⟩ ?_
    exact ih x4_1.2 x3_4
   ·exact oQF 8 [⟨[.str a0, w34 a1, .i x4_1.2, .i a3], 4, false⟩, Q7, Q7, Q8, Q5, Q6] 1 [] [.agg [.i 25, .str [], .own 3 (x3_4).length 7, .bool false, .bool false, .nils, .nils]] (.agg [.i 25, .str [], w29 x3_4, .bool false, .bool false, .vec 0 1 [], .vec 0 1 []]) (.agg (.cs (.cs (qAp qA7 qAe rfl rfl rfl (.cs (.cs (.nil (.nil .ps))))))) .ps) trivial
  ·refine qCv (fun hb7 => ?_) (fun hb7 => ?_)
   ·refine qA8 (fun x0_17 hx0_17 => ?_)
    let E7 : Env := [(12, .bool (decide (0 < (y5_1.length : Int)))), (11, .bool (decide (0 < (y5_1.length : Int)))), (10, .i (y5_1.length : Int)), (9, .own 3 (y5_1).length 7), (8, .ptr 2 7 2), (0, .ptr 0 4 0), (2, .ptr 1 7 0), (3, .ptr 2 7 0)]
    let E8 : Env := [(24, .i y5_0), (23, .ptr 0 4 2), (22, .ptr 0 4 0), (21, .ptr 0 4 0), (20, w34 a1), (19, .ptr 0 4 1), (18, .ptr 0 4 0), (17, .ptr 0 4 0), (16, .str a0), (15, .ptr 0 4 0), (14, .ptr 0 4 0), (13, .ptr 0 4 0), (12, .bool true), (11, .bool true), (10, .i (y5_1.length : Int)), (9, .own 3 (y5_1).length 7), (8, .ptr 2 7 2), (0, .ptr 0 4 0), (2, .ptr 1 7 0), (3, .ptr 2 7 0)]
    let Q9 : Blk := ⟨[.str a0, w34 a1, .i y5_0, .i a3], 4, false⟩
    let Q10 : Blk := ⟨[.i 25, .str [], .own 3 (y5_1).length 7, .bool false, .bool false, .nils, .nils], 7, false⟩
    let Q11 : Blk := ⟨(y5_1).flatMap e29, 0, false⟩
    refine oD (H' := (mkH [Q9, Q1, Q10, Q11])) (nav [0] i6p2) ((4, .bool x0_17) :: (26, .bool x0_17) :: (25, .bool x0_17) :: E8) [(mkH [Q9, Q1, Q10, Q11])] i6d0 (oDr 5 5 E7 (oDe (fun z => [(12, .bool z), (11, .bool z), (10, .i (y5_1.length : Int)), (9, .own 3 (y5_1).length 7), (8, .ptr 2 7 2), (0, .ptr 0 4 0), (2, .ptr 1 7 0), (3, .ptr 2 7 0)]) hb7 (oDr 12 17 E8 (qAr (l' := (opsAt i6p2).toList.drop 18) (eE := ((25, .bool x0_17) :: E8)) (hs := [(mkH [Q9, Q1, Q10, Q11])]) (fi := 57) (args := [.str a0, w34 a1, .i y5_0]) (v := .bool x0_17) (by kernel_rfl) (by kernel_rfl) (by kernel_rfl) (g57_ok k a0 a1 y5_0 x0_17 hx0_17) (by kernel_rfl) (oDr 2 20 ((4, .bool x0_17) :: (26, .bool x0_17) :: (25, .bool x0_17) :: E8) .nil))))) ?_
    refine oL 1 i6p3 [(0, .ptr 0 4 0), (2, .ptr 1 7 0), (3, .ptr 2 7 0), (4, .bool x0_17)] ?_
    exact hj6 (x0_17, y5_0, y5_1)
   ·let E7 : Env := [(12, .bool (decide (0 < (y5_1.length : Int)))), (11, .bool (decide (0 < (y5_1.length : Int)))), (10, .i (y5_1.length : Int)), (9, .own 3 (y5_1).length 7), (8, .ptr 2 7 2), (0, .ptr 0 4 0), (2, .ptr 1 7 0), (3, .ptr 2 7 0)]
    let E10 : Env := [(4, .bool false), (26, .bool false), (25, .tuple []), (24, .tuple []), (23, .tuple []), (22, .tuple []), (21, .tuple []), (20, .tuple []), (19, .tuple []), (18, .tuple []), (17, .tuple []), (16, .tuple []), (15, .tuple []), (14, .tuple []), (13, .tuple []), (12, .bool false), (11, .bool false), (10, .i (y5_1.length : Int)), (9, .own 3 (y5_1).length 7), (8, .ptr 2 7 2), (0, .ptr 0 4 0), (2, .ptr 1 7 0), (3, .ptr 2 7 0)]
    let Q12 : Blk := ⟨[.str a0, w34 a1, .i y5_0, .i a3], 4, false⟩
    let Q13 : Blk := ⟨[.i 25, .str [], .own 3 (y5_1).length 7, .bool false, .bool false, .nils, .nils], 7, false⟩
    let Q14 : Blk := ⟨(y5_1).flatMap e29, 0, false⟩
    refine oD (H' := (mkH [Q12, Q1, Q13, Q14])) (nav [0] i6p2) E10 [(mkH [Q12, Q1, Q13, Q14])] i6d0 (oDr 5 5 E7 (oDe (fun z => [(12, .bool z), (11, .bool z), (10, .i (y5_1.length : Int)), (9, .own 3 (y5_1).length 7), (8, .ptr 2 7 2), (0, .ptr 0 4 0), (2, .ptr 1 7 0), (3, .ptr 2 7 0)]) hb7 (oDh 15 20 E10 (mkH [Q12, Q1, Q13, Q14]) [(mkH [Q12, Q1, Q13, Q14])] .nil))) ?_
    refine oL 1 i6p3 [(0, .ptr 0 4 0), (2, .ptr 1 7 0), (3, .ptr 2 7 0), (4, .bool false)] ?_
    exact hj6 (false, y5_0, y5_1)
def i6B (k : Nat) (F : Fns0) (a0 : (List Nat)) (a1 : (List S33)) (a2 : Int) (a3 : Int) : Option (Option (S28 × Int)) :=
 qMz k F a0 a1 a3 k a2 ([] : List S28)
theorem qN (k : Nat) (F : Fns0) (hF : FnsOk0 F) : ∀ a0 a1 a2 a3 r, i6B k F a0 a1 a2 a3 = some r → CallT Try.prog 35 [.ptr 0 4 0] (mkH [⟨[.str a0, w34 a1, .i a2, .i a3], 4, false⟩]) ((Xi6 a0 a1 a2 a3).thr r) ((Xi6 a0 a1 a2 a3).enc r) ((Xi6 a0 a1 a2 a3).fin r) := by
 intro a0 a1 a2 a3 r h
 refine qA2 (Xi6 a0 a1 a2 a3) Try.func35 (by kernel_rfl) (by kernel_rfl) rfl (t := i6B k F a0 a1 a2 a3) ?_ h
 unfold i6B
 refine qA (eE := [(0, .ptr 0 4 0)]) (by kernel_rfl) ?_
 let Q1 : Blk := ⟨[.str a0, w34 a1, .i a2, .i a3], 4, false⟩
 let Q2 : Blk := ⟨[.i 0, .str [], .nils, .bool false, .bool false, .nils, .nils], 0, false⟩
 let Q3 : Blk := ⟨[.i 25, .str [], .nils, .bool false, .bool false, .nils, .nils], 7, false⟩
 refine oH 14 i6p2 [(3, .ptr 2 7 0), (7, .agg [.i 25, .str [], .nils, .bool false, .bool false, .nils, .nils]), (2, .ptr 1 7 0), (0, .ptr 0 4 0)] (mkH [Q1, Q2, Q3]) ?_
 refine qFo [Q1, Q2, Q3] (by kernel_rfl) ?_
 let Q4 : Blk := ⟨(([] : List S28)).flatMap e29, 0, false⟩
 refine oHp (mkH [Q1, Q2, Q3, Q4]) ?_
 refine qCu [Q1, Q2, Q3, Q4] 2 7 [.i 25, .str [], .nils, .bool false, .bool false, .nils, .nils] [.i 25, .str [], .own 3 (([] : List S28)).length 7, .bool false, .bool false, .nils, .nils] (by kernel_rfl) rfl (.cons (.cons (.none (.refl)))) ?_
 refine oHp (mkH [Q1, Q2, ⟨[.i 25, .str [], .own 3 (([] : List S28)).length 7, .bool false, .bool false, .nils, .nils], 7, false⟩, Q4]) ?_
 refine oK [0, 2, 3] [(0, .ptr 0 4 0), (2, .ptr 1 7 0), (3, .ptr 2 7 0)] ?_
 exact (i6_l5_ok k F hF a0 a1 a2 a3 k) a2 ([] : List S28)
theorem i6B_ok (k : Nat) (F : Fns0) (hF : FnsOk0 F) : Pi6 (i6B k F) := fun a0 a1 a2 a3 => ⟨fun x h => qN k F hF a0 a1 a2 a3 (some x) h, fun h => ⟨_, qN k F hF a0 a1 a2 a3 none h⟩⟩
def i8p1 : Pt := nav [0, 0, 0] (nav [0] (bodyAt Try.f48))
def i8p2 : Pt := nav [0, 0, 0, 0] i8p1
def i8p3 : Pt := nav [0, 0] i8p2
def i8p4 : Pt := nav [1, 0] i8p3
def i8p5 : Pt := nav [2, 0, 0] i8p3
def i8p6 : Pt := nav [0, 0, 0] i8p4
def i8p7 : Pt := nav [0, 0, 0] i8p5
def i8p8 : Pt := nav [0, 0, 0] i8p6
def i8d0 : DP := ⟨[31], [(0, 0, 0), (1, 0, 1), (0, 0, 1), (4, 0, 0), (15, 0, 0), (0, 0, 0), (32, 0, 0), (96, 0, 0), (255, 0, 0), (511, 0, 0)], 10, thrown, [], H0⟩
def i8B (k : Nat) (F : Fns0) (a0 : (List Nat)) (a1 : (List S33)) (a2 : Int) (a3 : Int) : Option (Option Ri8) :=
 (i9 k a0 a1 a2 a3).bind fun x0_1 => (i10 k x0_1.f1 a0 a1 a2 a3).bind fun x1_3 => jn (fun (z7 : Bool) => if z7 then (bT (i11 k a0 a1 a2 a3) fun x2_1 => bT (F.i8 a0 a1 x2_1 a3) fun x3_1 => (g65 k x0_1.f1).bind fun x4_7 => some (some ((⟨(13 : Int), x0_1.f1, ⟨(([x3_1.1] : List S28)).length, (([x3_1.1] : List S28)).flatMap e29⟩, false, false, ([] : List (List Nat)), ([] : List (List Nat))⟩ : S28), x4_7, x3_1.2.2))) else (bT (F.i13 a0 a1 a2 a3) fun x5_1 => bT (F.i14 x5_1.1 x5_1.2.1 a0 a1 x5_1.2.2 a3) fun x6_3 => some (some (x6_3.1, (11 : Int), x6_3.2)))) (fun j7 => if x1_3 then ((g65 k x0_1.f1).bind fun x1_7 => j7 (decide (0 < x1_7))) else (j7 false))
theorem qMy (k : Nat) (F : Fns0) (hF : FnsOk0 F) : ∀ a0 a1 a2 a3 r, i8B k F a0 a1 a2 a3 = some r → CallT Try.prog 48 [.ptr 0 4 0] (mkH [⟨[.str a0, w34 a1, .i a2, .i a3], 4, false⟩]) ((Xi8 a0 a1 a2 a3).thr r) ((Xi8 a0 a1 a2 a3).enc r) ((Xi8 a0 a1 a2 a3).fin r) := by
 intro a0 a1 a2 a3 r h
 refine qA2 (Xi8 a0 a1 a2 a3) Try.func48 (by kernel_rfl) (by kernel_rfl) rfl (t := i8B k F a0 a1 a2 a3) ?_ h
 unfold i8B
 refine qA (eE := [(0, .ptr 0 4 0)]) (by kernel_rfl) ?_
 let Q1 : Blk := ⟨[.str a0, w34 a1, .i a2, .i a3], 4, false⟩
 let Q2 : Blk := ⟨[.i 0, .str [], .nils, .bool false, .bool false, .nils, .nils], 0, false⟩
 refine oH 8 (atN 1 (ctl1 i8p1)) [(9, .ptr 0 4 0), (3, .i 0), (2, .ptr 1 7 0), (0, .ptr 0 4 0)] (mkH [Q1, Q2]) ?_
 refine oN (fun (x0_1 : S33) => n34 x0_1) (fun x0_1 => [Q1, Q2]) (atN 2 (ctl1 i8p1)) 10 [0] [] [] [.ptr 0 4 0] (qL5 k a0 a1 a2 a3) trivial (fun _ => trivial) fun x0_1 hx0_1 => ?_
 let E1 : Env := [(13, .str x0_1.f1), (12, .ptr 2 3 1), (11, .ptr 0 4 0), (4, .ptr 2 3 0), (10, n34 x0_1), (9, .ptr 0 4 0), (3, .i 0), (2, .ptr 1 7 0), (0, .ptr 0 4 0)]
 refine oH 9 (atN 3 (ctl1 i8p2)) E1 (mkH [Q1, Q2, ⟨e34 x0_1, 3, false⟩]) ?_
 refine oN (fun (x1_3 : Bool) => .bool x1_3) (fun x1_3 => [Q1, Q2, ⟨e34 x0_1, 3, false⟩]) (atN 4 (ctl1 i8p2)) 14 [0] [] [] [.ptr 0 4 0, .str x0_1.f1] (qH2 k x0_1.f1 a0 a1 a2 a3) trivial (fun _ => trivial) fun x1_3 hx1_3 => ?_
 refine oR 1 (atN 5 (ctl1 i8p2)) ((15, .bool x1_3) :: (14, .bool x1_3) :: E1) ?_
 refine oJ i8p3 (fun (z7 : Bool) => [(0, .ptr 0 4 0), (2, .ptr 1 7 0), (4, .ptr 2 3 0), (20, .bool z7)]) (fun (z7 : Bool) => (mkH [Q1, Q2, ⟨e34 x0_1, 3, false⟩])) (fun z7 => ?_) (fun j7 hj7 => ?_)
 ·refine oS 20 (fun hb => ?_) (fun hb => ?_)
  ·let E2 : Env := [(21, .ptr 0 4 0), (20, .bool true), (0, .ptr 0 4 0), (2, .ptr 1 7 0), (4, .ptr 2 3 0), (20, .bool z7)]
   refine oH 4 (atN 1 (ctl1 i8p4)) E2 (mkH [Q1, Q2, ⟨e34 x0_1, 3, false⟩]) ?_
   refine oX (fun (x2_1 : Int) => .tuple []) (fun x2_1 => [⟨[.str a0, w34 a1, .i x2_1, .i a3], 4, false⟩, Q2, ⟨e34 x0_1, 3, false⟩]) (atN 2 (ctl1 i8p4)) 22 [0] [] [] [] [] [.ptr 0 4 0] (qEw k a0 a1 a2 a3) trivial (fun _ => trivial) trivial fun x2_1 hx2_1 => ?_
   refine oR 4 (atN 1 (ctl1 i8p6)) ((24, .ptr 0 4 0) :: (22, .tuple []) :: E2) ?_
   refine oX (fun (x3_1 : Ri8) => .tuple [n29 x3_1.1, .i x3_1.2.1]) (fun x3_1 => [⟨[.str a0, w34 a1, .i x3_1.2.2, .i a3], 4, false⟩, Q2, ⟨e34 x0_1, 3, false⟩]) (atN 2 (ctl1 i8p6)) 25 [0] [] [] [0] [] [.ptr 0 4 0] (hF.i8_ok a0 a1 x2_1 a3) trivial (fun _ => trivial) trivial fun x3_1 hx3_1 => ?_
   let Q3 : Blk := ⟨[.str a0, w34 a1, .i x3_1.2.2, .i a3], 4, false⟩
   let K1 : List Blk := [Q3, Q2, ⟨e34 x0_1, 3, false⟩, ⟨e29 x3_1.1, 7, false⟩]
   refine oLH 8 i8p8 [(2, .ptr 1 7 0), (4, .ptr 2 3 0), (5, .ptr 3 7 0)] (mkH K1) ?_
   refine qA8 (fun x4_7 hx4_7 => ?_)
   let E5 : Env := [(34, .str x0_1.f1), (33, .ptr 2 3 1), (32, .agg [.i 13, .str x0_1.f1, w29 ([x3_1.1] : List S28), .bool false, .bool false, .nils, .nils]), (31, w29 ([x3_1.1] : List S28)), (30, n29 x3_1.1), (29, .str x0_1.f1), (28, .ptr 2 3 1), (2, .ptr 1 7 0), (4, .ptr 2 3 0), (5, .ptr 3 7 0)]
   let K2 : List Blk := [Q3, ⟨[.i 13, .str x0_1.f1, w29 ([x3_1.1] : List S28), .bool false, .bool false, .nils, .nils], 7, false⟩, ⟨e34 x0_1, 3, false⟩, ⟨e29 x3_1.1, 7, false⟩]
   refine oD (H' := (mkH K2)) (nav [0] i8p8) ((3, .i x4_7) :: (35, .i x4_7) :: E5) [(mkH K1), (mkH K2)] i8d0 (oDr 7 7 E5 (qAr (l' := (opsAt i8p8).toList.drop 8) (eE := ((35, .i x4_7) :: E5)) (hs := [(mkH K1)]) (fi := 65) (args := [.str x0_1.f1]) (v := .i x4_7) (by kernel_rfl) (by kernel_rfl) (by kernel_rfl) (g65_ok k x0_1.f1 x4_7 hx4_7) (by kernel_rfl) (oDh 2 10 ((3, .i x4_7) :: (35, .i x4_7) :: E5) (mkH K2) [(mkH K2)] .nil))) ?_
   exact oQF 1 K2 1 [] [.agg [.i 13, .str x0_1.f1, w29 ([x3_1.1] : List S28), .bool false, .bool false, .nils, .nils], .i x4_7] (.tuple [.agg [.i 13, .str x0_1.f1, w29 ([x3_1.1] : List S28), .bool false, .bool false, .vec 0 1 [], .vec 0 1 []], .i x4_7]) (.tuple (.agg (.cs (.cs (.cs (.cs (.cs (.nil (.nil .ps))))))) .ps) .ps) trivial
  ·refine oH 5 (atN 1 (ctl1 i8p5)) [(37, .ptr 0 4 0), (20, .bool false), (0, .ptr 0 4 0), (2, .ptr 1 7 0), (4, .ptr 2 3 0), (20, .bool z7)] (mkH [Q1, Q2, ⟨e34 x0_1, 3, false⟩]) ?_
   refine oX (fun (x5_1 : Ri13) => .tuple [n29 x5_1.1, .bool x5_1.2.1]) (fun x5_1 => [⟨[.str a0, w34 a1, .i x5_1.2.2, .i a3], 4, false⟩, Q2, ⟨e34 x0_1, 3, false⟩]) (atN 2 (ctl1 i8p5)) 38 [0] [] [] [0] [] [.ptr 0 4 0] (hF.i13_ok a0 a1 a2 a3) trivial (fun _ => trivial) trivial fun x5_1 hx5_1 => ?_
   let E8 : Env := [(0, .ptr 0 4 0), (2, .ptr 1 7 0), (7, .ptr 3 7 0), (8, .bool x5_1.2.1)]
   refine oLH 8 i8p7 E8 (mkH [⟨[.str a0, w34 a1, .i x5_1.2.2, .i a3], 4, false⟩, Q2, ⟨e34 x0_1, 3, false⟩, ⟨e29 x5_1.1, 7, false⟩]) ?_
   refine oR 4 (atN 3 (ctl1 i8p7)) ((43, .bool x5_1.2.1) :: (42, n29 x5_1.1) :: (41, .ptr 0 4 0) :: E8) ?_
   refine oX (fun (x6_3 : (S28 × Int)) => n29 x6_3.1) (fun x6_3 => [⟨[.str a0, w34 a1, .i x6_3.2, .i a3], 4, false⟩, Q2, ⟨e34 x0_1, 3, false⟩, ⟨e29 x5_1.1, 7, false⟩]) (atN 4 (ctl1 i8p7)) 44 [0] [] [] [0] [] [.ptr 0 4 0, n29 x5_1.1, .bool x5_1.2.1] (hF.i14_ok x5_1.1 x5_1.2.1 a0 a1 x5_1.2.2 a3) trivial (fun _ => trivial) trivial fun x6_3 hx6_3 => ?_
   exact oQF 4 [⟨[.str a0, w34 a1, .i x6_3.2, .i a3], 4, false⟩, ⟨e29 x6_3.1, 7, false⟩, ⟨e34 x0_1, 3, false⟩, ⟨e29 x5_1.1, 7, false⟩] 1 [] [n29 x6_3.1, .i 11] (.tuple [n29 x6_3.1, .i 11]) .ps trivial
 ·refine oS 15 (fun hb => ?_) (fun hb => ?_)
  ·refine oH 2 (atN 7 (ctl1 i8p2)) ((17, .str x0_1.f1) :: (16, .ptr 2 3 1) :: (15, .bool true) :: (15, .bool x1_3) :: (14, .bool x1_3) :: E1) (mkH [Q1, Q2, ⟨e34 x0_1, 3, false⟩]) ?_
   refine oA (fun (x1_7 : Int) => .i x1_7) (atN 8 (ctl1 i8p2)) 18 [.str x0_1.f1] (g65_ok k x0_1.f1) fun x1_7 hx1_7 => ?_
   refine oL 3 i8p3 [(0, .ptr 0 4 0), (2, .ptr 1 7 0), (4, .ptr 2 3 0), (20, .bool (decide (0 < x1_7)))] ?_
   exact hj7 (decide (0 < x1_7))
  ·refine oLH 6 i8p3 [(0, .ptr 0 4 0), (2, .ptr 1 7 0), (4, .ptr 2 3 0), (20, .bool false)] (mkH [Q1, Q2, ⟨e34 x0_1, 3, false⟩]) ?_
   exact hj7 false
theorem i8B_ok (k : Nat) (F : Fns0) (hF : FnsOk0 F) : Pi8 (i8B k F) := fun a0 a1 a2 a3 => ⟨fun x h => qMy k F hF a0 a1 a2 a3 (some x) h, fun h => ⟨_, qMy k F hF a0 a1 a2 a3 none h⟩⟩
def par0 (n : Nat) : Fns0 := Nat.rec (motive := fun _ => Fns0) ⟨fun _ _ _ _ _ => none, fun _ _ _ _ => none, fun _ _ _ _ => none, fun _ _ _ _ => none, fun _ _ _ _ _ _ => none, fun _ _ _ _ => none, fun _ _ _ _ _ _ _ _ _ _ _ _ => none, fun _ _ _ _ => none, fun _ _ _ _ _ _ _ _ _ _ _ _ => none, fun _ _ _ _ _ _ _ _ _ _ _ _ => none, fun _ _ _ _ => none, fun _ _ _ _ => none, fun _ _ _ _ _ => none, fun _ _ _ _ => none, fun _ _ _ _ _ _ _ _ _ _ _ => none, fun _ _ _ _ => none, fun _ _ _ _ => none, fun _ _ _ _ => none, fun _ _ _ _ _ _ _ _ _ _ _ => none, fun _ _ _ _ _ _ _ _ _ _ _ => none, fun _ _ _ _ => none, fun _ _ _ _ _ => none, fun _ _ _ _ _ => none, fun _ _ _ _ _ => none, fun _ _ _ _ _ => none, fun _ _ _ _ => none, fun _ _ _ _ => none, fun _ _ _ _ => none, fun _ _ _ _ _ _ _ => none, fun _ _ _ _ _ => none, fun _ _ _ _ => none, fun _ _ _ _ => none, fun _ _ _ _ => none, fun _ _ _ _ => none⟩ (fun k F => ⟨i5B k F, i6B k F, i8B k F, i13B k F, i14B k F, i17B k F, i18B k F, i19B k F, i20B k F, i21B k F, i24B k F, i25B k F, i26B k F, i29B k F, i30B k F, i31B k F, i32B k F, i34B k F, i36B k F, i37B k F, i38B k F, i40B k F, i41B k F, i42B k F, i43B k F, i44B k F, i45B k F, i46B k F, i47B k F, i48B k F, i49B k F, i50B k F, i51B k F, i52B k F⟩) n
theorem qA0 : ∀ k, FnsOk0 (par0 k)
 | 0 => ⟨(fun _ _ _ _ _ => ⟨fun _ h => (nomatch h), fun h => (nomatch h)⟩), (fun _ _ _ _ => ⟨fun _ h => (nomatch h), fun h => (nomatch h)⟩), (fun _ _ _ _ => ⟨fun _ h => (nomatch h), fun h => (nomatch h)⟩), (fun _ _ _ _ => ⟨fun _ h => (nomatch h), fun h => (nomatch h)⟩), (fun _ _ _ _ _ _ => ⟨fun _ h => (nomatch h), fun h => (nomatch h)⟩), (fun _ _ _ _ => ⟨fun _ h => (nomatch h), fun h => (nomatch h)⟩), (fun _ _ _ _ _ _ _ _ _ _ _ _ => ⟨fun _ h => (nomatch h), fun h => (nomatch h)⟩), (fun _ _ _ _ => ⟨fun _ h => (nomatch h), fun h => (nomatch h)⟩), (fun _ _ _ _ _ _ _ _ _ _ _ _ => ⟨fun _ h => (nomatch h), fun h => (nomatch h)⟩), (fun _ _ _ _ _ _ _ _ _ _ _ _ => ⟨fun _ h => (nomatch h), fun h => (nomatch h)⟩), (fun _ _ _ _ => ⟨fun _ h => (nomatch h), fun h => (nomatch h)⟩), (fun _ _ _ _ => ⟨fun _ h => (nomatch h), fun h => (nomatch h)⟩), (fun _ _ _ _ _ => ⟨fun _ h => (nomatch h), fun h => (nomatch h)⟩), (fun _ _ _ _ => ⟨fun _ h => (nomatch h), fun h => (nomatch h)⟩), (fun _ _ _ _ _ _ _ _ _ _ _ => ⟨fun _ h => (nomatch h), fun h => (nomatch h)⟩), (fun _ _ _ _ => ⟨fun _ h => (nomatch h), fun h => (nomatch h)⟩), (fun _ _ _ _ => ⟨fun _ h => (nomatch h), fun h => (nomatch h)⟩), (fun _ _ _ _ => ⟨fun _ h => (nomatch h), fun h => (nomatch h)⟩), (fun _ _ _ _ _ _ _ _ _ _ _ => ⟨fun _ h => (nomatch h), fun h => (nomatch h)⟩), (fun _ _ _ _ _ _ _ _ _ _ _ => ⟨fun _ h => (nomatch h), fun h => (nomatch h)⟩), (fun _ _ _ _ => ⟨fun _ h => (nomatch h), fun h => (nomatch h)⟩), (fun _ _ _ _ _ => ⟨fun _ h => (nomatch h), fun h => (nomatch h)⟩), (fun _ _ _ _ _ => ⟨fun _ h => (nomatch h), fun h => (nomatch h)⟩), (fun _ _ _ _ _ => ⟨fun _ h => (nomatch h), fun h => (nomatch h)⟩), (fun _ _ _ _ _ => ⟨fun _ h => (nomatch h), fun h => (nomatch h)⟩), (fun _ _ _ _ => ⟨fun _ h => (nomatch h), fun h => (nomatch h)⟩), (fun _ _ _ _ => ⟨fun _ h => (nomatch h), fun h => (nomatch h)⟩), (fun _ _ _ _ => ⟨fun _ h => (nomatch h), fun h => (nomatch h)⟩), (fun _ _ _ _ _ _ _ => ⟨fun _ h => (nomatch h), fun h => (nomatch h)⟩), (fun _ _ _ _ _ => ⟨fun _ h => (nomatch h), fun h => (nomatch h)⟩), (fun _ _ _ _ => ⟨fun _ h => (nomatch h), fun h => (nomatch h)⟩), (fun _ _ _ _ => ⟨fun _ h => (nomatch h), fun h => (nomatch h)⟩), (fun _ _ _ _ => ⟨fun _ h => (nomatch h), fun h => (nomatch h)⟩), (fun _ _ _ _ => ⟨fun _ h => (nomatch h), fun h => (nomatch h)⟩)⟩
 | k + 1 => ⟨i5B_ok k (par0 k) (qA0 k), i6B_ok k (par0 k) (qA0 k), i8B_ok k (par0 k) (qA0 k), i13B_ok k (par0 k) (qA0 k), i14B_ok k (par0 k) (qA0 k), i17B_ok k (par0 k) (qA0 k), i18B_ok k (par0 k) (qA0 k), i19B_ok k (par0 k) (qA0 k), i20B_ok k (par0 k) (qA0 k), i21B_ok k (par0 k) (qA0 k), i24B_ok k (par0 k) (qA0 k), i25B_ok k (par0 k) (qA0 k), i26B_ok k (par0 k) (qA0 k), i29B_ok k (par0 k) (qA0 k), i30B_ok k (par0 k) (qA0 k), i31B_ok k (par0 k) (qA0 k), i32B_ok k (par0 k) (qA0 k), i34B_ok k (par0 k) (qA0 k), i36B_ok k (par0 k) (qA0 k), i37B_ok k (par0 k) (qA0 k), i38B_ok k (par0 k) (qA0 k), i40B_ok k (par0 k) (qA0 k), i41B_ok k (par0 k) (qA0 k), i42B_ok k (par0 k) (qA0 k), i43B_ok k (par0 k) (qA0 k), i44B_ok k (par0 k) (qA0 k), i45B_ok k (par0 k) (qA0 k), i46B_ok k (par0 k) (qA0 k), i47B_ok k (par0 k) (qA0 k), i48B_ok k (par0 k) (qA0 k), i49B_ok k (par0 k) (qA0 k), i50B_ok k (par0 k) (qA0 k), i51B_ok k (par0 k) (qA0 k), i52B_ok k (par0 k) (qA0 k)⟩
def i5 (k : Nat) : Ti5 := (par0 k).i5
theorem i5_ok (k : Nat) : Pi5 (i5 k) := (qA0 k).i5_ok
def i6 (k : Nat) : Ti6 := (par0 k).i6
theorem i6_ok (k : Nat) : Pi6 (i6 k) := (qA0 k).i6_ok
def i8 (k : Nat) : Ti8 := (par0 k).i8
theorem i8_ok (k : Nat) : Pi8 (i8 k) := (qA0 k).i8_ok
def i13 (k : Nat) : Ti13 := (par0 k).i13
theorem i13_ok (k : Nat) : Pi13 (i13 k) := (qA0 k).i13_ok
def i14 (k : Nat) : Ti14 := (par0 k).i14
theorem i14_ok (k : Nat) : Pi14 (i14 k) := (qA0 k).i14_ok
def i17 (k : Nat) : Ti17 := (par0 k).i17
theorem i17_ok (k : Nat) : Pi17 (i17 k) := (qA0 k).i17_ok
def i18 (k : Nat) : Ti18 := (par0 k).i18
theorem i18_ok (k : Nat) : Pi18 (i18 k) := (qA0 k).i18_ok
def i19 (k : Nat) : Ti19 := (par0 k).i19
theorem i19_ok (k : Nat) : Pi19 (i19 k) := (qA0 k).i19_ok
def i20 (k : Nat) : Ti20 := (par0 k).i20
theorem i20_ok (k : Nat) : Pi20 (i20 k) := (qA0 k).i20_ok
def i21 (k : Nat) : Ti21 := (par0 k).i21
theorem i21_ok (k : Nat) : Pi21 (i21 k) := (qA0 k).i21_ok
def i24 (k : Nat) : Ti24 := (par0 k).i24
theorem i24_ok (k : Nat) : Pi24 (i24 k) := (qA0 k).i24_ok
def i25 (k : Nat) : Ti25 := (par0 k).i25
theorem i25_ok (k : Nat) : Pi25 (i25 k) := (qA0 k).i25_ok
def i26 (k : Nat) : Ti26 := (par0 k).i26
theorem i26_ok (k : Nat) : Pi26 (i26 k) := (qA0 k).i26_ok
def i29 (k : Nat) : Ti29 := (par0 k).i29
theorem i29_ok (k : Nat) : Pi29 (i29 k) := (qA0 k).i29_ok
def i30 (k : Nat) : Ti30 := (par0 k).i30
theorem i30_ok (k : Nat) : Pi30 (i30 k) := (qA0 k).i30_ok
def i31 (k : Nat) : Ti31 := (par0 k).i31
theorem i31_ok (k : Nat) : Pi31 (i31 k) := (qA0 k).i31_ok
def i32 (k : Nat) : Ti32 := (par0 k).i32
theorem i32_ok (k : Nat) : Pi32 (i32 k) := (qA0 k).i32_ok
def i34 (k : Nat) : Ti34 := (par0 k).i34
theorem i34_ok (k : Nat) : Pi34 (i34 k) := (qA0 k).i34_ok
def i36 (k : Nat) : Ti36 := (par0 k).i36
theorem i36_ok (k : Nat) : Pi36 (i36 k) := (qA0 k).i36_ok
def i37 (k : Nat) : Ti37 := (par0 k).i37
theorem i37_ok (k : Nat) : Pi37 (i37 k) := (qA0 k).i37_ok
def i38 (k : Nat) : Ti38 := (par0 k).i38
theorem i38_ok (k : Nat) : Pi38 (i38 k) := (qA0 k).i38_ok
def i40 (k : Nat) : Ti40 := (par0 k).i40
theorem i40_ok (k : Nat) : Pi40 (i40 k) := (qA0 k).i40_ok
def i41 (k : Nat) : Ti41 := (par0 k).i41
theorem i41_ok (k : Nat) : Pi41 (i41 k) := (qA0 k).i41_ok
def i42 (k : Nat) : Ti42 := (par0 k).i42
theorem i42_ok (k : Nat) : Pi42 (i42 k) := (qA0 k).i42_ok
def i43 (k : Nat) : Ti43 := (par0 k).i43
theorem i43_ok (k : Nat) : Pi43 (i43 k) := (qA0 k).i43_ok
def i44 (k : Nat) : Ti44 := (par0 k).i44
theorem i44_ok (k : Nat) : Pi44 (i44 k) := (qA0 k).i44_ok
def i45 (k : Nat) : Ti45 := (par0 k).i45
theorem i45_ok (k : Nat) : Pi45 (i45 k) := (qA0 k).i45_ok
def i46 (k : Nat) : Ti46 := (par0 k).i46
theorem i46_ok (k : Nat) : Pi46 (i46 k) := (qA0 k).i46_ok
def i47 (k : Nat) : Ti47 := (par0 k).i47
theorem i47_ok (k : Nat) : Pi47 (i47 k) := (qA0 k).i47_ok
def i48 (k : Nat) : Ti48 := (par0 k).i48
theorem i48_ok (k : Nat) : Pi48 (i48 k) := (qA0 k).i48_ok
def i49 (k : Nat) : Ti49 := (par0 k).i49
theorem i49_ok (k : Nat) : Pi49 (i49 k) := (qA0 k).i49_ok
def i50 (k : Nat) : Ti50 := (par0 k).i50
theorem i50_ok (k : Nat) : Pi50 (i50 k) := (qA0 k).i50_ok
def i51 (k : Nat) : Ti51 := (par0 k).i51
theorem i51_ok (k : Nat) : Pi51 (i51 k) := (qA0 k).i51_ok
def i52 (k : Nat) : Ti52 := (par0 k).i52
theorem i52_ok (k : Nat) : Pi52 (i52 k) := (qA0 k).i52_ok
abbrev Ri3 : Type := (Int × Int × (List Nat) × Raw × Bool × Bool × (List (List Nat)) × (List (List Nat)))
abbrev Ti3 : Type := Int → Int → (List Nat) → Raw → Bool → Bool → (List (List Nat)) → (List (List Nat)) → (List Nat) → (List S33) → Int → Int → Option (Option Ri3)
def Xi3 (a0 : Int) (a1 : Int) (a2 : (List Nat)) (a3 : Raw) (a4 : Bool) (a5 : Bool) (a6 : (List (List Nat))) (a7 : (List (List Nat))) (a8 : (List Nat)) (a9 : (List S33)) (a10 : Int) (a11 : Int) : Fx (Option Ri3) := ⟨Try.prog, cx, Try.f28, fun r => match r with | some r => .tuple [] | none => .top, 3, fun r => match r with | some r => (mkH [⟨[.i a0], 1, false⟩, ⟨[.i r.1, .str r.2.2.1, q29 r.2.2.2.1, .bool r.2.2.2.2.1, .bool r.2.2.2.2.2.1, w9 r.2.2.2.2.2.2.1, w9 r.2.2.2.2.2.2.2], 7, false⟩, ⟨[.str a8, w34 a9, .i r.2.1, .i a11], 4, false⟩]) | none => (mkH [⟨[.i a0], 1, false⟩, ⟨[.i a1, .str a2, q29 a3, .bool a4, .bool a5, w9 a6, w9 a7], 7, false⟩, ⟨[.str a8, w34 a9, .i a10, .i a11], 4, false⟩]), cxTi, cxOrd, fun r => match r with | some _ => none | none => some (thrown, [2]), false⟩
def Pi3 (f : Ti3) : Prop := ∀ a0 a1 a2 a3 a4 a5 a6 a7 a8 a9 a10 a11, PQh (Xi3 a0 a1 a2 a3 a4 a5 a6 a7 a8 a9 a10 a11) 28 [.ptr 2 4 0, .ptr 0 1 0, .ptr 1 7 0] (f a0 a1 a2 a3 a4 a5 a6 a7 a8 a9 a10 a11)
def i3p0 : Pt := nav [] (bodyAt Try.f28)
def i3 (k : Nat) (a0 : Int) (a1 : Int) (a2 : (List Nat)) (a3 : Raw) (a4 : Bool) (a5 : Bool) (a6 : (List (List Nat))) (a7 : (List (List Nat))) (a8 : (List Nat)) (a9 : (List S33)) (a10 : Int) (a11 : Int) : Option (Option Ri3) :=
 bT (i5 k a0 a8 a9 a10 a11) fun x0_2 => some (some (x0_2.1.f0, x0_2.2, x0_2.1.f1, x0_2.1.f2, x0_2.1.f3, x0_2.1.f4, x0_2.1.f5, x0_2.1.f6))
theorem i3_all (k : Nat) : ∀ a0 a1 a2 a3 a4 a5 a6 a7 a8 a9 a10 a11 r, i3 k a0 a1 a2 a3 a4 a5 a6 a7 a8 a9 a10 a11 = some r → CallT Try.prog 28 [.ptr 2 4 0, .ptr 0 1 0, .ptr 1 7 0] (mkH [⟨[.i a0], 1, false⟩, ⟨[.i a1, .str a2, q29 a3, .bool a4, .bool a5, w9 a6, w9 a7], 7, false⟩, ⟨[.str a8, w34 a9, .i a10, .i a11], 4, false⟩]) ((Xi3 a0 a1 a2 a3 a4 a5 a6 a7 a8 a9 a10 a11).thr r) ((Xi3 a0 a1 a2 a3 a4 a5 a6 a7 a8 a9 a10 a11).enc r) ((Xi3 a0 a1 a2 a3 a4 a5 a6 a7 a8 a9 a10 a11).fin r) := by
 intro a0 a1 a2 a3 a4 a5 a6 a7 a8 a9 a10 a11 r h
 refine qA2 (Xi3 a0 a1 a2 a3 a4 a5 a6 a7 a8 a9 a10 a11) Try.func28 (by kernel_rfl) (by kernel_rfl) rfl (t := i3 k a0 a1 a2 a3 a4 a5 a6 a7 a8 a9 a10 a11) ?_ h
 unfold i3
 refine qA (eE := [(0, .ptr 2 4 0), (1, .ptr 0 1 0), (2, .ptr 1 7 0)]) (by kernel_rfl) ?_
 let Q1 : Blk := ⟨[.i a1, .str a2, q29 a3, .bool a4, .bool a5, w9 a6, w9 a7], 7, false⟩
 refine oH 3 (atN 2 (ctl1 i3p0)) [(5, .i a0), (4, .ptr 2 4 0), (0, .ptr 2 4 0), (1, .ptr 0 1 0), (2, .ptr 1 7 0)] (mkH [⟨[.i a0], 1, false⟩, Q1, ⟨[.str a8, w34 a9, .i a10, .i a11], 4, false⟩]) ?_
 refine oX (fun (x0_2 : (S28 × Int)) => n29 x0_2.1) (fun x0_2 => [⟨[.i a0], 1, false⟩, Q1, ⟨[.str a8, w34 a9, .i x0_2.2, .i a11], 4, false⟩]) (atN 3 (ctl1 i3p0)) 6 [2] [] [] [2] [] [.ptr 2 4 0, .i a0] (i5_ok k a0 a8 a9 a10 a11) trivial (fun _ => trivial) trivial fun x0_2 hx0_2 => ?_
 exact oQF 2 [⟨[.i a0], 1, false⟩, ⟨e29 x0_2.1, 7, false⟩, ⟨[.str a8, w34 a9, .i x0_2.2, .i a11], 4, false⟩] 3 [] [] (.tuple []) .ps trivial
theorem i3_ok (k : Nat) : Pi3 (i3 k) := fun a0 a1 a2 a3 a4 a5 a6 a7 a8 a9 a10 a11 => ⟨fun x h => i3_all k a0 a1 a2 a3 a4 a5 a6 a7 a8 a9 a10 a11 (some x) h, fun h => ⟨_, i3_all k a0 a1 a2 a3 a4 a5 a6 a7 a8 a9 a10 a11 none h⟩⟩
abbrev Ri0 : Type := (Int × Int × (List (List Nat)) × (List (List Nat)) × Int × (List Nat) × Raw × Bool × Bool)
abbrev Ti0 : Type := (List Nat) → (List S33) → Int → Int → Int → Int → (List Nat) → Raw → Bool → Bool → (List (List Nat)) → (List (List Nat)) → Option Ri0
def Xi0 (a0 : (List Nat)) (a1 : (List S33)) (a2 : Int) (a3 : Int) (a4 : Int) (a5 : Int) (a6 : (List Nat)) (a7 : Raw) (a8 : Bool) (a9 : Bool) (a10 : (List (List Nat))) (a11 : (List (List Nat))) : Fx Ri0 := ⟨Try.prog, cx, Try.f27, fun r => .tuple [.i r.1, .i r.2.1], 2, fun r => (mkH [⟨[.i a4], 1, false⟩, ⟨[.i r.2.2.2.2.1, .str r.2.2.2.2.2.1, q29 r.2.2.2.2.2.2.1, .bool r.2.2.2.2.2.2.2.1, .bool r.2.2.2.2.2.2.2.2, w9 r.2.2.1, w9 r.2.2.2.1], 7, false⟩]), cxTi, cxOrd, fun _ => none, true⟩
def Pi0 (f : Ti0) : Prop := ∀ a0 a1 a2 a3 a4 a5 a6 a7 a8 a9 a10 a11, PNh (Xi0 a0 a1 a2 a3 a4 a5 a6 a7 a8 a9 a10 a11) 27 [.str a0, w34 a1, .i a2, .i a3, .func 28 [] [.ptr 0 1 0, .ptr 1 7 0]] (mkH [⟨[.i a4], 1, false⟩, ⟨[.i a5, .str a6, q29 a7, .bool a8, .bool a9, w9 a10, w9 a11], 7, false⟩]) (f a0 a1 a2 a3 a4 a5 a6 a7 a8 a9 a10 a11)
def i0p1 : Pt := nav [0, 0, 0, 0] (nav [0] (bodyAt Try.f27))
def i0p2 : Pt := nav [0, 0] i0p1
def i0p6 : Pt := nav [0, 0, 0] (nav [2, 0, 0] i0p2)
def i0p7 : Pt := nav [0, 0, 0] i0p6
def i0 (k : Nat) (a0 : (List Nat)) (a1 : (List S33)) (a2 : Int) (a3 : Int) (a4 : Int) (a5 : Int) (a6 : (List Nat)) (a7 : Raw) (a8 : Bool) (a9 : Bool) (a10 : (List (List Nat))) (a11 : (List (List Nat))) : Option Ri0 :=
 jn (fun (z1 : Bool) => if z1 then (some ((0 : Int), (8 : Int), a10, a11, a5, a6, a7, a8, a9)) else (cT (i3 k a4 a5 a6 a7 a8 a9 a10 a11 a0 a1 a2 a3) (some ((0 : Int), (8 : Int), a10, a11, a5, a6, a7, a8, a9)) fun x0_2 => some (x0_2.2.1, (0 : Int), x0_2.2.2.2.2.2.2.1, x0_2.2.2.2.2.2.2.2, x0_2.1, x0_2.2.2.1, x0_2.2.2.2.1, x0_2.2.2.2.2.1, x0_2.2.2.2.2.2.1))) (fun j1 => if (decide (a2 < 0)) then (j1 true) else (if (decide ((a1.length : Int) < a3)) then (j1 true) else (j1 (decide (a3 < a2)))))
theorem i0_all (k : Nat) : ∀ a0 a1 a2 a3 a4 a5 a6 a7 a8 a9 a10 a11 r, i0 k a0 a1 a2 a3 a4 a5 a6 a7 a8 a9 a10 a11 = some r → CallT Try.prog 27 [.str a0, w34 a1, .i a2, .i a3, .func 28 [] [.ptr 0 1 0, .ptr 1 7 0]] (mkH [⟨[.i a4], 1, false⟩, ⟨[.i a5, .str a6, q29 a7, .bool a8, .bool a9, w9 a10, w9 a11], 7, false⟩]) ((Xi0 a0 a1 a2 a3 a4 a5 a6 a7 a8 a9 a10 a11).thr r) ((Xi0 a0 a1 a2 a3 a4 a5 a6 a7 a8 a9 a10 a11).enc r) ((Xi0 a0 a1 a2 a3 a4 a5 a6 a7 a8 a9 a10 a11).fin r) := by
 intro a0 a1 a2 a3 a4 a5 a6 a7 a8 a9 a10 a11 r h
 refine qA2 (Xi0 a0 a1 a2 a3 a4 a5 a6 a7 a8 a9 a10 a11) Try.func27 (by kernel_rfl) (by kernel_rfl) rfl (t := i0 k a0 a1 a2 a3 a4 a5 a6 a7 a8 a9 a10 a11) ?_ h
 unfold i0
 refine qA (eE := [(0, .str a0), (1, w34 a1), (2, .i a2), (3, .i a3), (4, .func 28 [] [.ptr 0 1 0, .ptr 1 7 0])]) (by kernel_rfl) ?_
 let E1 : Env := [(15, .bool (decide (a2 < 0))), (14, .bool (decide (a2 < 0))), (13, .i a2), (11, .ptr 3 1 0), (10, .ptr 2 1 0), (0, .str a0), (1, w34 a1), (2, .i a2), (3, .i a3), (4, .func 28 [] [.ptr 0 1 0, .ptr 1 7 0])]
 let Q1 : Blk := ⟨[.i a5, .str a6, q29 a7, .bool a8, .bool a9, w9 a10, w9 a11], 7, false⟩
 let K1 : List Blk := [⟨[.i a4], 1, false⟩, Q1, ⟨[.i 0], 0, false⟩, ⟨[.i 0], 0, false⟩]
 refine oH 11 (atN 3 (ctl1 i0p1)) E1 (mkH K1) ?_
 refine oJ i0p2 (fun (z1 : Bool) => [(0, .str a0), (1, w34 a1), (2, .i a2), (3, .i a3), (4, .func 28 [] [.ptr 0 1 0, .ptr 1 7 0]), (10, .ptr 2 1 0), (11, .ptr 3 1 0), (25, .bool z1)]) (fun (z1 : Bool) => (mkH K1)) (fun z1 => ?_) (fun j1 hj1 => ?_)
 ·refine oS 25 (fun hb => ?_) (fun hb => ?_)
  ·let E2 : Env := [(25, .bool true), (0, .str a0), (1, w34 a1), (2, .i a2), (3, .i a3), (4, .func 28 [] [.ptr 0 1 0, .ptr 1 7 0]), (10, .ptr 2 1 0), (11, .ptr 3 1 0), (25, .bool z1)]
   exact oQF 7 [⟨[.i a4], 1, false⟩, Q1, ⟨[.i 0], 1, false⟩, ⟨[.i 8], 1, false⟩] 2 [] [.i 0, .i 8] (.tuple [.i 0, .i 8]) .ps trivial
  ·let E4 : Env := [(4, .func 28 [] [.ptr 0 1 0, .ptr 1 7 0]), (10, .ptr 2 1 0), (11, .ptr 3 1 0), (12, .ptr 4 4 0)]
   let K2 : List Blk := [⟨[.i a4], 1, false⟩, Q1, ⟨[.i 0], 0, false⟩, ⟨[.i 0], 0, false⟩, ⟨[.str a0, w34 a1, .i a2, .i a3], 0, false⟩]
   refine oLH 13 i0p6 E4 (mkH K2) ?_
   refine oR 2 (atN 1 (ctl1 i0p6)) ((32, .func 46 [] [.ptr 2 1 0, .ptr 3 1 0]) :: E4) ?_
   refine qJe (f := 46) (caps := [.ptr 2 1 0, .ptr 3 1 0]) (by kernel_rfl) ?_
   refine okD_at (p' := (atN 2 (ctl1 i0p6))) (by kernel_rfl) ?_
   refine qE2 5 (p' := (atN 2 (ctl1 i0p7))) (eE := ((34, .ptr 4 4 0) :: (33, .func 28 [] [.ptr 0 1 0, .ptr 1 7 0]) :: (32, .func 46 [] [.ptr 2 1 0, .ptr 3 1 0]) :: E4)) (H' := (mkH K2)) (by kernel_rfl) ?_
   let Q3 : Blk := ⟨[.str a0, w34 a1, .i a2, .i a3], 4, false⟩
   let K3 : List Blk := [⟨[.i a4], 1, false⟩, Q1, ⟨[.i 0], 0, false⟩, ⟨[.i 0], 0, false⟩, Q3]
   let K4 : List Blk := [⟨[.i a4], 1, false⟩, Q1, ⟨[.i 0], 1, false⟩, ⟨[.i 8], 1, false⟩, Q3]
   refine qJg (tv := thrown) (D := [4]) (rc := ((0 : Int), (8 : Int), a10, a11, a5, a6, a7, a8, a9)) (tc := some ((0 : Int), (8 : Int), a10, a11, a5, a6, a7, a8, a9)) (xs := [.i 0, .i 8]) (v := .tuple [.i 0, .i 8]) (fi := 28) (args := [.ptr 4 4 0, .ptr 0 1 0, .ptr 1 7 0]) (fun (x0_2 : Ri3) => .tuple []) (fun (x0_2 : Ri3) => (mkH [⟨[.i a4], 1, false⟩, ⟨[.i x0_2.1, .str x0_2.2.2.1, q29 x0_2.2.2.2.1, .bool x0_2.2.2.2.2.1, .bool x0_2.2.2.2.2.2.1, w9 x0_2.2.2.2.2.2.2.1, w9 x0_2.2.2.2.2.2.2.2], 7, false⟩, ⟨[.i 0], 0, false⟩, ⟨[.i 0], 0, false⟩, ⟨[.str a0, w34 a1, .i x0_2.2.1, .i a3], 4, false⟩])) (atN 3 (ctl1 i0p7)) (fun x0_2 => [(35, .tuple []), (34, .ptr 4 4 0), (33, .func 28 [] [.ptr 0 1 0, .ptr 1 7 0]), (32, .func 46 [] [.ptr 2 1 0, .ptr 3 1 0]), (4, .func 28 [] [.ptr 0 1 0, .ptr 1 7 0]), (10, .ptr 2 1 0), (11, .ptr 3 1 0), (12, .ptr 4 4 0)]) K3 [⟨[.i a4], 1, false⟩, Q1] [⟨[.i 0], 1, false⟩, ⟨[.i 8], 1, false⟩, Q3] [(10, .ptr 2 1 0), (11, .ptr 3 1 0)] [10, 11] 4 rfl rfl (by kernel_rfl) (fun h => frS 0 (M := K3) (rs := [0, 1, 4]) (ms := []) (mv := []) (mm := []) (D := [4]) (xs' := [.ptr 4 4 0, .ptr 0 1 0, .ptr 1 7 0]) (.refl) ((i3_ok k a4 a5 a6 a7 a8 a9 a10 a11 a0 a1 a2 a3).2 h) trivial trivial (by kernel_rfl)) (by kernel_rfl) (by kernel_rfl) (by kernel_rfl) (by kernel_rfl) (qDq (⟨Try.prog, cx, Try.f46, fun _ => .tuple [], 5, fun _ => (mkH K4), cxTi, cxOrd, fun _ => none, false⟩ : Fx Unit) 5 2 (x := .iface 72 (.agg [])) qEk (by kernel_rfl) (by kernel_rfl) (by kernel_rfl) rfl rfl rfl rfl ?_) rfl (by kernel_rfl) (by kernel_rfl) (by kernel_rfl) (.pures (by kernel_rfl)) ⟨(by kernel_rfl), ⟨(by kernel_rfl), trivial⟩⟩ (by kernel_rfl) (by kernel_rfl) (fun x0_2 h => frW 0 K3 (rs := [0, 1, 4]) (ms := []) (ms' := []) (mv := []) (xs' := [.ptr 4 4 0, .ptr 0 1 0, .ptr 1 7 0]) (.refl) ((i3_ok k a4 a5 a6 a7 a8 a9 a10 a11 a0 a1 a2 a3).1 x0_2 h) trivial trivial (by kernel_rfl)) (fun _ => by kernel_rfl) (fun x0_2 hx0_2 => ?_)
   ·refine oE [(2, .iface 72 (.agg [])), (5, .iface 72 (.agg [])), (0, .ptr 2 1 0), (1, .ptr 3 1 0)] ?_
    let E1 : Env := [(4, .bool true), (3, .ptr 5 0 0), (12, .bool true), (11, .agg []), (8, .tuple [.agg [], .bool true]), (10, .tuple [.agg [], .bool true]), (9, .iface 72 (.agg [])), (7, .bool true), (6, .iface 72 (.agg [])), (2, .iface 72 (.agg [])), (5, .iface 72 (.agg [])), (0, .ptr 2 1 0), (1, .ptr 3 1 0)]
    let E2 : Env := [(0, .ptr 2 1 0), (1, .ptr 3 1 0), (2, .iface 72 (.agg [])), (4, .bool true)]
    refine oLH 19 (nav [0, 0, 0] (nav [1, 0, 0] (nav [0, 0] (nav [0] (restAt Try.f46))))) E2 (mkH [⟨[.i a4], 1, false⟩, Q1, ⟨[.i 0], 0, false⟩, ⟨[.i 0], 0, false⟩, Q3, ⟨[], 0, false⟩]) ?_
    refine oH 10 .fin ((14, .bool false) :: (13, .bool true) :: E2) (mkH [⟨[.i a4], 1, false⟩, Q1, ⟨[.i 0], 1, false⟩, ⟨[.i 8], 1, false⟩, Q3, ⟨[], 0, false⟩]) ?_
    refine qAa K4 [⟨[], 0, false⟩] (by kernel_rfl) rfl (by kernel_rfl) ⟨(by kernel_rfl), ⟨(by kernel_rfl), ⟨(by kernel_rfl), ⟨(by kernel_rfl), ⟨(by kernel_rfl), trivial⟩⟩⟩⟩⟩ ?_
    exact qFn (r := ()) (xs := []) (by kernel_rfl) (by kernel_rfl) (by kernel_rfl) (by kernel_rfl)
   ·let Q4 : Blk := ⟨[.i x0_2.1, .str x0_2.2.2.1, q29 x0_2.2.2.2.1, .bool x0_2.2.2.2.2.1, .bool x0_2.2.2.2.2.2.1, w9 x0_2.2.2.2.2.2.2.1, w9 x0_2.2.2.2.2.2.2.2], 7, false⟩
    let Q5 : Blk := ⟨[.i x0_2.2.1], 1, false⟩
    let Q6 : Blk := ⟨[.str a0, w34 a1, .i x0_2.2.1, .i a3], 4, false⟩
    let K5 : List Blk := [⟨[.i a4], 1, false⟩, Q4, Q5, ⟨[.i 0], 1, false⟩, Q6]
    refine qE2 11 (p' := .fin) (eE := ((39, .i x0_2.2.1) :: (38, .ptr 4 4 2) :: (37, .ptr 4 4 0) :: (36, .ptr 4 4 0) :: (35, .tuple []) :: (34, .ptr 4 4 0) :: (33, .func 28 [] [.ptr 0 1 0, .ptr 1 7 0]) :: (32, .func 46 [] [.ptr 2 1 0, .ptr 3 1 0]) :: E4)) (H' := (mkH K5)) (by kernel_rfl) ?_
    refine qMq (r := (x0_2.2.1, (0 : Int), x0_2.2.2.2.2.2.2.1, x0_2.2.2.2.2.2.2.2, x0_2.1, x0_2.2.2.1, x0_2.2.2.2.1, x0_2.2.2.2.2.1, x0_2.2.2.2.2.2.1)) (xs := [.i x0_2.2.1, .i 0]) (v := .tuple [.i x0_2.2.1, .i 0]) K5 [⟨[.i a4], 1, false⟩, Q4] [Q5, ⟨[.i 0], 1, false⟩, Q6] rfl rfl (qDq (⟨Try.prog, cx, Try.f46, fun _ => .tuple [], 5, fun _ => (mkH K5), cxTi, cxOrd, fun _ => none, false⟩ : Fx Unit) 5 2 (x := .nili) qJi (by kernel_rfl) (by kernel_rfl) (by kernel_rfl) rfl rfl rfl rfl ?_) (by kernel_rfl) (by kernel_rfl) (by kernel_rfl) (by kernel_rfl) (.pures (by kernel_rfl)) ⟨(by kernel_rfl), ⟨(by kernel_rfl), trivial⟩⟩ (by kernel_rfl) (by kernel_rfl)
    let E1 : Env := [(7, .bool false), (6, .nili), (2, .nili), (5, .nili), (0, .ptr 2 1 0), (1, .ptr 3 1 0)]
    refine oH 7 .fin E1 (mkH K5) ?_
    exact qFn (r := ()) (xs := []) (by kernel_rfl) (by kernel_rfl) (by kernel_rfl) (by kernel_rfl)
 ·refine oS 15 (fun hb => ?_) (fun hb => ?_)
  ·refine oLH 11 i0p2 [(0, .str a0), (1, w34 a1), (2, .i a2), (3, .i a3), (4, .func 28 [] [.ptr 0 1 0, .ptr 1 7 0]), (10, .ptr 2 1 0), (11, .ptr 3 1 0), (25, .bool true)] (mkH K1) ?_
   exact hj1 true
  ·let E8 : Env := ((21, .bool (decide ((a1.length : Int) < a3))) :: (20, .bool (decide ((a1.length : Int) < a3))) :: (19, .bool (decide ((a1.length : Int) < a3))) :: (18, .i (a1.length : Int)) :: (17, w34 a1) :: (16, .i a3) :: (15, .bool false) :: E1)
   refine oH 6 (atN 9 (ctl1 i0p1)) E8 (mkH K1) ?_
   refine oS 21 (fun hb => ?_) (fun hb => ?_)
   ·refine oR 5 i0p2 ((25, .bool true) :: (24, .tuple []) :: (23, .tuple []) :: (22, .tuple []) :: (21, .bool true) :: E8) ?_
    refine oK [0, 1, 2, 3, 4, 10, 11, 25] [(0, .str a0), (1, w34 a1), (2, .i a2), (3, .i a3), (4, .func 28 [] [.ptr 0 1 0, .ptr 1 7 0]), (10, .ptr 2 1 0), (11, .ptr 3 1 0), (25, .bool true)] ?_
    exact hj1 true
   ·refine oL 5 i0p2 [(0, .str a0), (1, w34 a1), (2, .i a2), (3, .i a3), (4, .func 28 [] [.ptr 0 1 0, .ptr 1 7 0]), (10, .ptr 2 1 0), (11, .ptr 3 1 0), (25, .bool (decide (a3 < a2)))] ?_
    exact hj1 (decide (a3 < a2))
theorem i0_ok (k : Nat) : Pi0 (i0 k) := fun a0 a1 a2 a3 a4 a5 a6 a7 a8 a9 a10 a11 => fun x h => i0_all k a0 a1 a2 a3 a4 a5 a6 a7 a8 a9 a10 a11 x h
def Xg14 : Fx (S28 × Int × Int) := ⟨Try.prog, cx, Try.f14, fun r => .tuple [.agg [.i r.1.f0, .str r.1.f1, q29 r.1.f2, .bool r.1.f3, .bool r.1.f4, w9 r.1.f5, w9 r.1.f6], .i r.2.1, .i r.2.2], 0, fun _ => H0, cxTi, cxOrd, fun _ => none, false⟩
def g14p2 : Pt := nav [0, 0, 0] (nav [0, 0, 0] (nav [0] (bodyAt Try.f14)))
def g14p3 : Pt := nav [0, 0, 0] g14p2
def g14 (k : Nat) (a0 : (List Nat)) (a1 : (List S33)) (a2 : Int) (a3 : Int) (a4 : Int) : Option (S28 × Int × Int) :=
 (i0 k a0 a1 a2 a3 a4 (0 : Int) ([] : List Nat) (⟨(([] : List S28)).length, (([] : List S28)).flatMap e29⟩ : Raw) false false ([] : List (List Nat)) ([] : List (List Nat))).bind fun x0_5 => (g30 k (⟨x0_5.2.2.2.2.1, x0_5.2.2.2.2.2.1, x0_5.2.2.2.2.2.2.1, x0_5.2.2.2.2.2.2.2.1, x0_5.2.2.2.2.2.2.2.2, x0_5.2.2.1, x0_5.2.2.2.1⟩ : S28) x0_5.2.1).bind fun x1_2 => some (x1_2, x0_5.1, x0_5.2.1)
theorem g14_ok (k : Nat) (a0 : (List Nat)) (a1 : (List S33)) (a2 : Int) (a3 : Int) (a4 : Int) (r : (S28 × Int × Int)) (h : g14 k a0 a1 a2 a3 a4 = some r) : PureOk Try.prog 14 [.str a0, w34 a1, .i a2, .i a3, .i a4] (.tuple [.agg [.i r.1.f0, .str r.1.f1, q29 r.1.f2, .bool r.1.f3, .bool r.1.f4, w9 r.1.f5, w9 r.1.f6], .i r.2.1, .i r.2.2]) := by
 refine qA6 Xg14 (fun _ => ⟨rfl, rfl⟩) Try.func14 (by decide +kernel) (by kernel_rfl) (t := g14 k a0 a1 a2 a3 a4) ?_ h
 unfold g14
 refine qA (eE := [(0, .str a0), (1, w34 a1), (2, .i a2), (3, .i a3), (4, .i a4)]) (by kernel_rfl) ?_
 let E1 : Env := [(13, .ptr 2 7 0), (12, .i 0), (11, .i 0), (10, .ptr 1 7 0), (9, .ptr 0 1 0), (0, .str a0), (1, w34 a1), (2, .i a2), (3, .i a3), (4, .i a4)]
 let Q1 : Blk := ⟨[.i 0, .str [], .nils, .bool false, .bool false, .nils, .nils], 0, false⟩
 refine oH 12 g14p2 E1 (mkH [⟨[.i a4], 0, false⟩, Q1, Q1]) ?_
 refine qCu [⟨[.i a4], 0, false⟩, Q1, Q1] 2 0 [.i 0, .str [], .nils, .bool false, .bool false, .nils, .nils] [.i 0, .str [], w29 ([] : List S28), .bool false, .bool false, w9 ([] : List (List Nat)), w9 ([] : List (List Nat))] (by kernel_rfl) rfl (.cons (.cons (.nil (.cons (.cons (.nil (.nil (.refl)))))))) ?_
 let E2 : Env := ((21, .func 28 [] [.ptr 0 1 0, .ptr 2 7 0]) :: (20, .i a3) :: (19, .i a2) :: (18, w34 a1) :: (17, .str a0) :: E1)
 refine oH 6 (atN 5 (ctl1 g14p2)) E2 (mkH [⟨[.i a4], 0, false⟩, Q1, ⟨[.i 0, .str [], w29 ([] : List S28), .bool false, .bool false, w9 ([] : List (List Nat)), w9 ([] : List (List Nat))], 0, false⟩]) ?_
 refine qFp (fun (x0_5 : Ri0) => .tuple [.i x0_5.1, .i x0_5.2.1]) (fun (x0_5 : Ri0) => (mkH [⟨[.i a4], 1, false⟩, Q1, ⟨[.i x0_5.2.2.2.2.1, .str x0_5.2.2.2.2.2.1, q29 x0_5.2.2.2.2.2.2.1, .bool x0_5.2.2.2.2.2.2.2.1, .bool x0_5.2.2.2.2.2.2.2.2, w9 x0_5.2.2.1, w9 x0_5.2.2.2.1], 7, false⟩])) (atN 6 (ctl1 g14p2)) (fun x0_5 => ((22, .tuple [.i x0_5.1, .i x0_5.2.1]) :: E2)) (fi := 27) (args := [.str a0, w34 a1, .i a2, .i a3, .func 28 [] [.ptr 0 1 0, .ptr 2 7 0]]) (by kernel_rfl) (fun x0_5 h => frW 0 [⟨[.i a4], 1, false⟩, Q1, ⟨[.i 0, .str [], w29 ([] : List S28), .bool false, .bool false, w9 ([] : List (List Nat)), w9 ([] : List (List Nat))], 7, false⟩] (rs := [0, 2]) (ms := []) (ms' := []) (mv := []) (xs' := [.str a0, w34 a1, .i a2, .i a3, .func 28 [] [.ptr 0 1 0, .ptr 2 7 0]]) (.refl) (i0_ok k a0 a1 a2 a3 a4 (0 : Int) ([] : List Nat) (⟨(([] : List S28)).length, (([] : List S28)).flatMap e29⟩ : Raw) false false ([] : List (List Nat)) ([] : List (List Nat)) x0_5 h) trivial trivial (by kernel_rfl)) (fun _ => by kernel_rfl) (fun x0_5 hx0_5 => ?_)
 let E4 : Env := [(10, .ptr 1 7 0), (13, .ptr 2 7 0), (14, .i x0_5.1), (15, .i x0_5.2.1)]
 refine oLH 7 g14p3 E4 (mkH [⟨[.i a4], 1, false⟩, Q1, ⟨[.i x0_5.2.2.2.2.1, .str x0_5.2.2.2.2.2.1, q29 x0_5.2.2.2.2.2.2.1, .bool x0_5.2.2.2.2.2.2.2.1, .bool x0_5.2.2.2.2.2.2.2.2, w9 x0_5.2.2.1, w9 x0_5.2.2.2.1], 7, false⟩]) ?_
 refine oR 3 (atN 2 (ctl1 g14p3)) ((26, .i x0_5.2.1) :: (25, .agg [.i x0_5.2.2.2.2.1, .str x0_5.2.2.2.2.2.1, q29 x0_5.2.2.2.2.2.2.1, .bool x0_5.2.2.2.2.2.2.2.1, .bool x0_5.2.2.2.2.2.2.2.2, w9 x0_5.2.2.1, w9 x0_5.2.2.2.1]) :: E4) ?_
 refine oA (fun (x1_2 : S28) => n29 x1_2) (atN 3 (ctl1 g14p3)) 27 [.agg [.i x0_5.2.2.2.2.1, .str x0_5.2.2.2.2.2.1, q29 x0_5.2.2.2.2.2.2.1, .bool x0_5.2.2.2.2.2.2.2.1, .bool x0_5.2.2.2.2.2.2.2.2, w9 x0_5.2.2.1, w9 x0_5.2.2.2.1], .i x0_5.2.1] (g30_ok k (⟨x0_5.2.2.2.2.1, x0_5.2.2.2.2.2.1, x0_5.2.2.2.2.2.2.1, x0_5.2.2.2.2.2.2.2.1, x0_5.2.2.2.2.2.2.2.2, x0_5.2.2.1, x0_5.2.2.2.1⟩ : S28) x0_5.2.1) fun x1_2 hx1_2 => ?_
 exact oQ 7
def fg26 (k : Nat) (a0 : (List Nat)) (a1 : Int) : Option (S33 × Int) :=
 jn (fun (z17 : Bool) => if z17 then (some ((⟨(0 : Int), ([] : List Nat), (0 : Int)⟩ : S33), (4 : Int))) else ((nthS a0 a1).bind fun x0_2 => if (decide (x0_2 = 37)) then (qC5 k a0 a1 k a1) else (jn (fun (z19 : Bool) => jn (fun (z20 : Int × Int) => if (decide (z20.2 = 0)) then (some ((⟨(0 : Int), ([] : List Nat), (0 : Int)⟩ : S33), (4 : Int))) else ((subL a0 (some a1) (some (fW .i64 (a1 + z20.2)))).bind fun x14_6 => some ((⟨z20.1, x14_6, a1⟩ : S33), (0 : Int)))) (fun j20 => if z19 then (j20 (10, 1)) else ((g38 k x0_2).bind fun x2_1 => if (decide (x2_1 = 3)) then ((g39 k a0 a1).bind fun x3_2 => some (x3_2.1, x3_2.2)) else ((g38 k x0_2).bind fun x4_1 => if (decide (0 < x4_1)) then ((g38 k x0_2).bind fun x5_1 => (g40 k a0 a1).bind fun x5_4 => (subL a0 (some a1) (some (fW .i64 (a1 + fW .i64 (x5_4 - a1))))).bind fun x6_5 => (g41 k x6_5).bind fun x6_6 => if x6_6 then (j20 (8, fW .i64 (x5_4 - a1))) else (j20 (x5_1, fW .i64 (x5_4 - a1)))) else (if (decide (x0_2 = 39)) then ((g42 k a0 a1).bind fun x7_2 => j20 (1, x7_2)) else (if (decide (x0_2 = 34)) then ((g42 k a0 a1).bind fun x8_2 => j20 (6, x8_2)) else (if (decide (x0_2 = 36)) then ((g43 k a0 a1).bind fun x9_2 => j20 (5, x9_2)) else (if (decide (x0_2 = 63)) then (jn (fun (z21 : Bool) => jn (fun (z22 : Int) => jn (fun (z23 : Bool) => if z23 then ((g40 k a0 z22).bind fun x13_2 => j20 (7, fW .i64 (x13_2 - a1))) else (j20 (0, 0))) (fun j23 => if (decide (z22 < (a0.length : Int))) then ((nthS a0 z22).bind fun x12_7 => (g44 k x12_7).bind fun x12_8 => if x12_8 then (j23 true) else ((nthS a0 z22).bind fun x12_12 => j23 (decide (x12_12 = 95)))) else (j23 false))) (fun j22 => if z21 then (j22 (fW .i64 (fW .i64 (a1 + 1) + 1))) else (j22 (fW .i64 (a1 + 1))))) (fun j21 => if (decide (fW .i64 (a1 + 1) < (a0.length : Int))) then ((nthS a0 (fW .i64 (a1 + 1))).bind fun x10_7 => j21 (decide (x10_7 = 63))) else (j21 false))) else ((some ((lngN (a0.drop a1.toNat) : Nat) : Int)).bind fun x11_2 => j20 (9, x11_2)))))))))) (fun j19 => if (decide (x0_2 = 46)) then (if (decide (fW .i64 (a1 + 1) = (a0.length : Int))) then (j19 true) else ((nthS a0 (fW .i64 (a1 + 1))).bind fun x1_12 => if (decide (x1_12 = 37)) then (j19 true) else ((g25 k a0 (fW .i64 (a1 + 1))).bind fun x1_19 => j19 (decide (fW .i64 (a1 + 1) < x1_19))))) else (j19 false))))) (fun j17 => if (decide (a1 < 0)) then (j17 true) else (j17 (decide ((a0.length : Int) ≤ a1))))
theorem fast_one {k : Nat} (hk : 38 ≤ k) {s : List Nat} (hl : Sz s) (a : Int) : g26 k s a = fg26 k s a := by
 by_cases h : 0 ≤ a ∧ a < (s.length : Int)
 ·obtain ⟨i, rfl⟩ : ∃ i : Nat, a = (i : Int) := ⟨a.toNat, by omega⟩
  unfold g26 fg26
  rw [qHg hk hl (by omega), Int.toNat_natCast]
 ·unfold g26 fg26
  refine ((jS (v := true) (fun j => ?_)).trans (iT rfl rfl)).trans ((jS (v := true) (fun j => ?_)).trans (iT rfl rfl)).symm
  ·by_cases h0 : a < 0
   ·exact iT (dT h0) rfl
   ·exact iF (dF h0) (by rw [dT (by omega)])
  ·by_cases h0 : a < 0
   ·exact iT (dT h0) rfl
   ·exact iF (dF h0) (by rw [dT (by omega)])
theorem qLn {k : Nat} {s : List Nat} {i b : Nat} {r : List Nat} (h : s.drop i = b :: r) (hb : b < 128) : g36 k s (i : Int) = some ((b : Int), 1) := by
 have hl := qAk h
 unfold g36
 refine (jS (v := false) (fun j => iF (dF (by omega)) (by rw [dF (by omega)]))).trans (iF rfl (bS (nthX rfl h) ?_))
 rw [fwI (n := (b : Int)) (by omega) (by omega)]
 exact iT (dT (by omega)) rfl
theorem ascii_l {k : Nat} {s : List Nat} (hl : Sz s) (hb : ∀ b ∈ s, b < 128) : ∀ (n i : Nat), s.length - i < n → qF3 k s n (i : Int) = some true := by
 intro n
 unfold Sz at hl
 induction n with
 | zero => intro i h; omega
 | succ n ih =>
  intro i h
  rw [g24_l1_s]
  by_cases hi : i < s.length
  ·obtain ⟨b, r, h1, h2, h3, h4⟩ := dcons hi
   refine iT (dT (by omega)) (bS (qLn h1 (hb b h3)) (iF (dF (by omega)) ?_))
   rw [fw_s (by omega)]
   exact ih (i + 1) (by omega)
  ·exact iF (dF (by omega)) rfl
theorem qJ2 {k : Nat} {s : List Nat} (hl : Sz s) (hb : ∀ b ∈ s, b < 128) (hk : s.length < k) : g24 k s = some true := ascii_l hl hb k 0 (by omega)
end
structure Pc where
 w : List Nat
 t : List Nat
 k : Int
def txt : List Pc → List Nat
 | [] => []
 | p :: r => p.w ++ (p.t ++ txt r)
def tkp (i : Nat) : List Pc → List S33
 | [] => []
 | p :: r => ⟨p.k, p.t, ((i + p.w.length : Nat) : Int)⟩ :: tkp (i + p.w.length + p.t.length) r
def Nb (r : List Nat) : Prop := r = [] ∨ ∃ d q, r = d :: q ∧ blkN d = false
def TokAt (t : List Nat) (k : Int) (rest : List Nat) : Prop := ∀ (s : List Nat) (i : Nat), s.length < 399 → (∀ b ∈ s, b < 128) → s.drop i = t ++ rest → g26 400 s (i : Int) = some (⟨k, t, (i : Int)⟩, 0)
def Sc : List Pc → Prop
 | [] => True
 | p :: r => (∀ c ∈ p.w, blkN c = true) ∧ (∃ d q, p.t = d :: q ∧ blkN d = false) ∧ TokAt p.t p.k (txt r) ∧ Sc r
theorem qP {c : Nat} (h : blkN c = true) : c = 32 ∨ c = 9 ∨ c = 10 ∨ c = 13 := by
 simp only [blkN, Bool.or_eq_true, decide_eq_true_eq] at h
 omega
theorem blk_not {c : Nat} (h : blkN c = false) : ¬ c = 32 ∧ ¬ c = 9 ∧ ¬ c = 10 ∧ ¬ c = 13 := by
 simp only [blkN, Bool.or_eq_false_iff, decide_eq_false_iff_not] at h
 omega
theorem qCz {k : Nat} {s : List Nat} {rest : List Nat} (hr : Nb rest) : ∀ (w : List Nat) (i n : Nat), s.length < 1000 → (∀ c ∈ w, blkN c = true) → s.drop i = w ++ rest → i ≤ s.length → w.length < n → qE7 k s n (i : Int) = some ((i + w.length : Nat) : Int)
 | [], i, n, hl, hw, h, hi, hn => by
  obtain ⟨n, rfl⟩ : ∃ m, n = m + 1 := ⟨n - 1, by omega⟩
  rw [qKs]
  rcases hr with rfl | ⟨d, q, rfl, hd⟩
  ·have : s.length ≤ i := List.drop_eq_nil_iff.1 (by simpa using h)
   exact (jS (v := (false, (i : Int))) (fun j => iF (dF (by omega)) rfl)).trans (iF rfl rfl)
  ·have h' : s.drop i = d :: q := by simpa using h
   have hl := qAk h'
   obtain ⟨h1, h2, h3, h4⟩ := blk_not hd
   refine (jS (v := (false, (i : Int))) (fun j => iT (dT (by omega)) (bS (nthX rfl h') (iF (dF (by omega)) (bS (nthX rfl h') (iF (dF (by omega)) (bS (nthX rfl h') (iF (dF (by omega)) (bS (nthX rfl h') ?_))))))))).trans (iF rfl rfl)
   rw [dF (by omega)]
 | c :: w, i, n, hl, hw, h, hi, hn => by
  obtain ⟨n, rfl⟩ : ∃ m, n = m + 1 := ⟨n - 1, by omega⟩
  have h' : s.drop i = c :: (w ++ rest) := h
  have hlen := qAk h'
  have hc := qP (hw c List.mem_cons_self)
  rw [qKs]
  refine (jS (v := (true, (i : Int))) (fun j => iT (dT (by omega)) (bS (nthX rfl h') ?_))).trans (iT rfl ?_)
  ·by_cases h1 : c = 32
   ·exact iT (dT (by omega)) rfl
   refine iF (dF (by omega)) (bS (nthX rfl h') ?_)
   by_cases h2 : c = 9
   ·exact iT (dT (by omega)) rfl
   refine iF (dF (by omega)) (bS (nthX rfl h') ?_)
   by_cases h3 : c = 10
   ·exact iT (dT (by omega)) rfl
   refine iF (dF (by omega)) (bS (nthX rfl h') ?_)
   rw [dT (by omega)]
  ·show qE7 k s n (fW .i64 ((i : Int) + 1)) = _
   rw [fw_s (by omega), qCz hr w (i + 1) n hl (fun d hd => hw d (List.mem_cons_of_mem _ hd)) (qAx h') (by omega) (by simpa using hn)]
   simp only [List.length_cons]
   rw [show i + 1 + w.length = i + (w.length + 1) by omega]
theorem sc_nb {p : Pc} {r : List Pc} (h : Sc (p :: r)) : Nb (p.t ++ txt r) := by
 obtain ⟨-, ⟨d, q, hd, hb⟩, -, -⟩ := h
 exact .inr ⟨d, q ++ txt r, by rw [hd]; rfl, hb⟩
theorem app32' {l x : List S33} (h : l.length + x.length ≤ 1000000) : appS 32 l x = some (l ++ x) := by
 unfold appS
 rw [if_pos ⟨by omega, by omega⟩]
theorem scan_run {s : List Nat} (hs : s.length < 399) (hb : ∀ b ∈ s, b < 128) : ∀ (r : List Pc) (p : Pc) (i n : Nat) (acc : List S33), Sc (p :: r) → s.drop i = p.t ++ txt r → r.length + 1 < n → acc.length + r.length < 1000 →
 qF4 400 s n (i : Int) acc = some (acc ++ ⟨p.k, p.t, (i : Int)⟩ :: tkp (i + p.t.length) r, 0) := by
 intro r
 induction r with
 | nil =>
  intro p i n acc hsc h hn ha
  obtain ⟨n, rfl⟩ : ∃ m, n = m + 1 := ⟨n - 1, by omega⟩
  obtain ⟨-, ⟨d, q, hd, -⟩, htok, -⟩ := hsc
  have hi : i < s.length := by
   rcases Nat.lt_or_ge i s.length with h1 | h1
   ·exact h1
   ·rw [List.drop_eq_nil_of_le h1, hd] at h; simp at h
  have hlen : i + p.t.length = s.length := by
   have := congrArg List.length h
   simp only [txt, List.append_nil, List.length_drop] at this
   omega
  rw [qG]
  refine iT (dT (by omega)) (bS (htok s i hs hb h) (iF rfl (bS (app32' (by simp; omega)) ?_)))
  show ((g25 400 s (fW .i64 ((i : Int) + (p.t.length : Int)))).bind _) = _
  rw [fw_a (by omega) (by omega)]
  have hbk : g25 400 s ((i + p.t.length : Nat) : Int) = some ((i + p.t.length + ([] : List Nat).length : Nat) : Int) := qCz (rest := []) (.inl rfl) [] _ 400 (by omega) (fun c hc => by cases hc) (by rw [hlen]; simp) (by omega) (by simp)
  refine bS hbk ?_
  obtain ⟨n, rfl⟩ : ∃ m, n = m + 1 := ⟨n - 1, by simp at hn; omega⟩
  rw [qG]
  refine (iF (dF (by simp only [List.length_nil]; omega)) ?_)
  simp [tkp]
 | cons p2 r ih =>
  intro p i n acc hsc h hn ha
  obtain ⟨n, rfl⟩ : ∃ m, n = m + 1 := ⟨n - 1, by omega⟩
  obtain ⟨-, ⟨d, q, hd, -⟩, htok, hsc2⟩ := hsc
  have hi : i < s.length := by
   rcases Nat.lt_or_ge i s.length with h1 | h1
   ·exact h1
   ·rw [List.drop_eq_nil_of_le h1, hd] at h; simp at h
  have hd2 : s.drop (i + p.t.length) = p2.w ++ (p2.t ++ txt r) := by
   rw [← List.drop_drop, h, List.drop_left]; rfl
  have hle : i + p.t.length ≤ s.length := by
   have := congrArg List.length h
   simp only [List.length_append, List.length_drop] at this
   omega
  have hd3 : s.drop (i + p.t.length + p2.w.length) = p2.t ++ txt r := by
   rw [← List.drop_drop, hd2, List.drop_left]
  have hle2 : i + p.t.length + p2.w.length ≤ s.length := by
   have := congrArg List.length hd2
   simp only [List.length_append, List.length_drop] at this
   omega
  rw [qG]
  refine iT (dT (by omega)) (bS (htok s i hs hb h) (iF rfl (bS (app32' (by simp at ha ⊢; omega)) ?_)))
  show ((g25 400 s (fW .i64 ((i : Int) + (p.t.length : Int)))).bind _) = _
  rw [fw_a (by omega) (by omega)]
  have hbk : g25 400 s ((i + p.t.length : Nat) : Int) = some ((i + p.t.length + p2.w.length : Nat) : Int) := qCz (sc_nb hsc2) p2.w _ 400 (by omega) hsc2.1 hd2 hle (by omega)
  refine bS hbk ?_
  refine (ih p2 (i + p.t.length + p2.w.length) n (acc ++ [⟨p.k, p.t, (i : Int)⟩]) hsc2 hd3 (by simpa using hn) (by simp at ha ⊢; omega)).trans ?_
  simp [tkp]
theorem scan_pc {p : Pc} {r : List Pc} (hsc : Sc (p :: r)) (hs : (txt (p :: r)).length < 399) (hb : ∀ b ∈ txt (p :: r), b < 128) (hn : r.length < 390) : g13 400 (txt (p :: r)) = some (tkp 0 (p :: r), 0) := by
 unfold g13
 have hsz : Sz (txt (p :: r)) := by unfold Sz; omega
 refine iF (dF (by omega)) (bS (qJ2 hsz hb (by omega)) (iF rfl ?_))
 have hbk : g25 400 (txt (p :: r)) ((0 : Nat) : Int) = some ((0 + p.w.length : Nat) : Int) := qCz (sc_nb hsc) p.w 0 400 (by omega) hsc.1 rfl (by omega) (by simp [txt] at hs; omega)
 refine bS hbk ?_
 have := scan_run hs hb r p (0 + p.w.length) 400 [] hsc (by rw [Nat.zero_add, txt, List.drop_left]) (by omega) (by simp; omega)
 rw [this]
 rfl
theorem qMl {s t rest : List Nat} {i d : Nat} {q : List Nat} (h : s.drop i = t ++ rest) (ht : t = d :: q) : s.drop i = d :: (q ++ rest) := by rw [h, ht]; rfl
theorem qFb {t rest : List Nat} {d : Nat} {q : List Nat} (ht : t = d :: q) (hd : begN d = 0) (hd2 : ¬ d = 37 ∧ ¬ d = 46 ∧ ¬ d = 39 ∧ ¬ d = 34 ∧ ¬ d = 36 ∧ ¬ d = 63) (hl : lngN (t ++ rest) = t.length) : TokAt t 9 rest := by
 intro s i hs hb h
 obtain ⟨h1, h2, h3, h4, h5, h6⟩ := hd2
 have hd' := qMl h ht
 have hlen := qAk hd'
 have hlt : i + t.length ≤ s.length := by
  have := congrArg List.length h
  simp only [List.length_append, List.length_drop] at this
  omega
 have hb' : d < 256 := by have := hb d (qCg hd'); omega
 have hcls : g38 400 (d : Int) = some 0 := by rw [qEd 400 hb', hd]; rfl
 have hp : 0 < t.length := by rw [ht]; simp
 rw [fast_one (by decide) (by unfold Sz; omega)]
 unfold fg26
 refine (jS (v := false) (fun j => iF (dF (by omega)) (by rw [dF (by omega)]))).trans (iF rfl (bS (nthX rfl hd') ?_))
 refine iF (dF (by omega)) ((jS (v := false) (fun j => iF (dF (by omega)) rfl)).trans ?_)
 refine (jS (v := (9, (t.length : Int))) (fun j => ?_)).trans ?_
 ·refine iF rfl (bS hcls (iF rfl (bS hcls (iF rfl (iF (dF (by omega)) (iF (dF (by omega)) (iF (dF (by omega)) (iF (dF (by omega)) (bS rfl ?_)))))))))
  rw [Int.toNat_natCast, h, hl]
 ·refine iF (dF (by omega)) (bS (a := t) ?_ rfl)
  rw [fw_a (by omega) (by omega), subMid (i := i) (j := i + t.length) rfl rfl (by omega) hlt, List.drop_take, h]
  simp
theorem qGx {k : Nat} {s rest : List Nat} (hs : s.length < 1000) (hb : ∀ b ∈ s, b < 256) (hr : rest = [] ∨ ∃ d q, rest = d :: q ∧ inrN d = false) : ∀ (t : List Nat) (i n : Nat), (∀ c ∈ t, inrN c = true) → s.drop i = t ++ rest → i ≤ s.length → t.length < n → qE6 k s n (i : Int) = some ((i + t.length : Nat) : Int)
 | [], i, n, ht, h, hi, hn => by
  obtain ⟨n, rfl⟩ : ∃ m, n = m + 1 := ⟨n - 1, by omega⟩
  rw [qKq]
  rcases hr with rfl | ⟨d, q, rfl, hd⟩
  ·have : s.length ≤ i := List.drop_eq_nil_iff.1 (by simpa using h)
   exact (jS (v := (false, (i : Int))) (fun j => iF (dF (by omega)) rfl)).trans (iF rfl rfl)
  ·have h' : s.drop i = d :: q := by simpa using h
   have hl := qAk h'
   have := qD8 k (hb d (qCg h'))
   rw [hd] at this
   exact (jS (v := (false, (i : Int))) (fun j => iT (dT (by omega)) (bS (nthX rfl h') (bS this rfl)))).trans (iF rfl rfl)
 | c :: t, i, n, ht, h, hi, hn => by
  obtain ⟨n, rfl⟩ : ∃ m, n = m + 1 := ⟨n - 1, by omega⟩
  have h' : s.drop i = c :: (t ++ rest) := h
  have hl := qAk h'
  have := qD8 k (hb c (qCg h'))
  rw [ht c List.mem_cons_self] at this
  rw [qKq]
  refine (jS (v := (true, (i : Int))) (fun j => iT (dT (by omega)) (bS (nthX rfl h') (bS this rfl)))).trans (iT rfl ?_)
  show qE6 k s n (fW .i64 ((i : Int) + 1)) = _
  rw [fw_s (by omega), qGx hs hb hr t (i + 1) n (fun d hd => ht d (List.mem_cons_of_mem _ hd)) (qAx h') (by omega) (by simpa using hn)]
  simp only [List.length_cons]
  rw [show i + 1 + t.length = i + (t.length + 1) by omega]
theorem name_tok {t rest : List Nat} {d : Nat} {q : List Nat} (ht : t = d :: q) (hd : begN d = 1 ∨ begN d = 2) (hin : ∀ c ∈ t, inrN c = true) (hr : rest = [] ∨ ∃ d q, rest = d :: q ∧ inrN d = false) : TokAt t (if rsvN t then 8 else ((begN d : Nat) : Int)) rest := by
 intro s i hs hb h
 have hd' := qMl h ht
 have hlen := qAk hd'
 have hlt : i + t.length ≤ s.length := by
  have := congrArg List.length h
  simp only [List.length_append, List.length_drop] at this
  omega
 have hb' : d < 256 := by have := hb d (qCg hd'); omega
 have hcls : g38 400 (d : Int) = some ((begN d : Nat) : Int) := qEd 400 hb'
 have hp : 0 < t.length := by rw [ht]; simp
 have hne : ¬ d = 37 ∧ ¬ d = 46 := by
  constructor
  ·rintro rfl; rcases hd with hd | hd <;> cases hd
  ·rintro rfl; rcases hd with hd | hd <;> cases hd
 have hinn : g40 400 s (i : Int) = some ((i + t.length : Nat) : Int) := qGx (by omega) (fun b h => by have := hb b h; omega) hr t i 400 hin h (by omega) (by omega)
 have hsub : subL s (some (i : Int)) (some (fW .i64 ((i : Int) + (t.length : Int)))) = some t := by
  rw [fw_a (by omega) (by omega), subMid (i := i) (j := i + t.length) rfl rfl (by omega) hlt, List.drop_take, h]
  simp
 have hfw : fW .i64 (((i + t.length : Nat) : Int) - (i : Int)) = (t.length : Int) := by rw [fw_d (by omega) (by omega)]; congr 1; omega
 unfold g26
 refine (jS (v := false) (fun j => iF (dF (by omega)) (by rw [dF (by omega)]))).trans (iF rfl (bS (nthX rfl hd') ?_))
 refine iF (dF (by omega)) ((jS (v := false) (fun j => iF (dF (by omega)) rfl)).trans ?_)
 refine (jS (v := ((if rsvN t then 8 else ((begN d : Nat) : Int)), (t.length : Int))) (fun j => ?_)).trans ?_
 ·refine iF rfl (bS hcls (iF (dF (by rcases hd with hd | hd <;> rw [hd] <;> decide)) (bS hcls (iT (dT (by rcases hd with hd | hd <;> rw [hd] <;> decide)) (bS hcls (bS hinn ?_))))))
  rw [hfw]
  refine bS hsub (bS (qGf (by decide) t) ?_)
  cases rsvN t <;> rfl
 ·exact iF (dF (by omega)) (bS hsub rfl)
abbrev Tkn : Type := S33 × Int
def pos (to : Int) (ts : List Tkn) : Int := to - (ts.length : Int)
structure Vw (k : Nat) (s : List Nat) (L : List S33) (to : Int) (W : List Tkn) : Prop where
 len : (W.length : Int) = to
 get : ∀ (i : Nat) t, W[i]? = some t → nthL L (i : Int) = some t.1 ∧ g72 k s L (i : Int) = some t.2
 fin : g72 k s L to = some 0
 sm : W.length < 1000000
 fu : W.length < k
def SimN {α β : Type} (tr : α → β) (ok : α → Prop) (m1 : Option β) (m2 : Option α) : Prop := ∀ x, m2 = some x → m1 = some (tr x) ∧ ok x
def oTh {α : Type} (ok : α → Prop) : Option α → Prop := fun o => ∀ y, o = some y → ok y
section
variable {α β γ δ : Type} {tr : α → β} {ok : α → Prop} {tr1 : γ → δ} {ok1 : γ → Prop}
theorem sB {m1 : Option δ} {m2 : Option γ} {f1 : δ → Option β} {f2 : γ → Option α} (h : SimN tr1 ok1 m1 m2) (k : ∀ x, ok1 x → SimN tr ok (f1 (tr1 x)) (f2 x)) : SimN tr ok (m1.bind f1) (m2.bind f2) := by
 intro y hy
 cases m2 with
 | none => cases hy
 | some x =>
  obtain ⟨h1, h2⟩ := h x rfl
  rw [h1]
  exact k x h2 y hy
theorem sE {m : Option γ} {f1 : γ → Option β} {f2 : γ → Option α} (k : ∀ x, SimN tr ok (f1 x) (f2 x)) : SimN tr ok (m.bind f1) (m.bind f2) := by
 intro y hy
 cases m with
 | none => cases hy
 | some x => exact k x y hy
theorem sT {m1 : Option (Option δ)} {m2 : Option (Option γ)} {f1 : δ → Option (Option β)} {f2 : γ → Option (Option α)} (h : SimN (Option.map tr1) (oTh ok1) m1 m2) (k : ∀ x, ok1 x → SimN (Option.map tr) (oTh ok) (f1 (tr1 x)) (f2 x)) : SimN (Option.map tr) (oTh ok) (bT m1 f1) (bT m2 f2) := by
 intro y hy
 cases m2 with
 | none => cases hy
 | some o =>
  obtain ⟨h1, h2⟩ := h o rfl
  rw [h1]
  cases o with
  | none => cases hy; exact ⟨rfl, fun z hz => by cases hz⟩
  | some x => exact k x (h2 x rfl) y hy
theorem sTE {m : Option (Option γ)} {f1 : γ → Option (Option β)} {f2 : γ → Option (Option α)} (k : ∀ x, SimN (Option.map tr) (oTh ok) (f1 x) (f2 x)) : SimN (Option.map tr) (oTh ok) (bT m f1) (bT m f2) := by
 intro y hy
 cases m with
 | none => cases hy
 | some o => cases o with
  | none => cases hy; exact ⟨rfl, fun z hz => by cases hz⟩
  | some x => exact k x y hy
theorem sI {c : Prop} [Decidable c] {A1 B1 : Option β} {A2 B2 : Option α} (h : SimN tr ok A1 A2) (k : SimN tr ok B1 B2) : SimN tr ok (if c then A1 else B1) (if c then A2 else B2) := by
 by_cases hc : c
 ·rw [if_pos hc, if_pos hc]; exact h
 ·rw [if_neg hc, if_neg hc]; exact k
theorem sR {x : α} (h : ok x) : SimN (Option.map tr) (oTh ok) (some (some (tr x))) (some (some x)) := fun y hy => by cases hy; exact ⟨rfl, fun z hz => by cases hz; exact h⟩
theorem sRN {x : α} (h : ok x) : SimN tr ok (some (tr x)) (some x) := fun y hy => by cases hy; exact ⟨rfl, h⟩
theorem sTh : SimN (Option.map tr) (oTh ok) (some none) (some none) := fun y hy => by cases hy; exact ⟨rfl, fun z hz => by cases hz⟩
theorem sZ {m : Option β} : SimN tr ok m (none : Option α) := fun y hy => by cases hy
end
theorem sJ {α β γ δ : Type} {tr : γ → δ} {ok : γ → Prop} (tz : α → β) (okz : α → Prop) {K1 : β → Option δ} {K2 : α → Option γ} {b1 : (β → Option δ) → Option δ} {b2 : (α → Option γ) → Option γ} (hK : ∀ z, okz z → SimN tr ok (K1 (tz z)) (K2 z))
 (hb : ∀ (j1 : β → Option δ) (j2 : α → Option γ), (∀ z, okz z → SimN tr ok (j1 (tz z)) (j2 z)) → SimN tr ok (b1 j1) (b2 j2)) : SimN tr ok (jn K1 b1) (jn K2 b2) := hb K1 K2 hK
section
variable {k : Nat} {s : List Nat} {L : List S33} {to : Int} {W : List Tkn}
theorem Vw.at_ (hv : Vw k s L to W) {ts : List Tkn} (h : ts <:+ W) : ∃ i : Nat, pos to ts = (i : Int) ∧ i + ts.length = W.length := by
 obtain ⟨p, rfl⟩ := h
 have := hv.len
 rw [List.length_append] at this
 exact ⟨p.length, by unfold pos; omega, by rw [List.length_append]⟩
theorem Vw.hd (hv : Vw k s L to W) {t : Tkn} {r : List Tkn} (h : t :: r <:+ W) : nthL L (pos to (t :: r)) = some t.1 ∧ g72 k s L (pos to (t :: r)) = some t.2 ∧ pos to (t :: r) < to ∧ fW .i64 (pos to (t :: r) + 1) = pos to r := by
 obtain ⟨p, rfl⟩ := h
 have hl := hv.len
 have hs := hv.sm
 rw [List.length_append, List.length_cons] at hl hs
 have e : pos to (t :: r) = (p.length : Int) := by unfold pos; rw [List.length_cons]; omega
 obtain ⟨h1, h2⟩ := hv.get p.length t (by simp)
 rw [e]
 refine ⟨h1, h2, by omega, ?_⟩
 rw [fw_s (by omega)]
 unfold pos
 omega
theorem qLw {t : Tkn} {r : List Tkn} (h : t :: r <:+ W) : r <:+ W := List.IsSuffix.trans (List.suffix_cons t r) h
theorem qFh : pos to [] = to := by unfold pos; simp
def cCur : List Tkn → S33
 | [] => ⟨0, [], 0⟩
 | t :: r => if t.1.f0 = 11 then cCur r else t.1
noncomputable def c9 (k : Nat) (ts : List Tkn) : Option S33 := some (cCur ts)
theorem cur_l (hv : Vw k s L to W) (a : Int) : ∀ (ts : List Tkn) (n : Nat), ts <:+ W → ts.length < n → qL6 k s L a to n (pos to ts) = some (cCur ts)
 | [], n, h, hn => by
  obtain ⟨n, rfl⟩ : ∃ m, n = m + 1 := ⟨n - 1, by omega⟩
  rw [qMw, qFh]
  exact iF (dF (by omega)) rfl
 | t :: r, n, h, hn => by
  obtain ⟨n, rfl⟩ : ∃ m, n = m + 1 := ⟨n - 1, by omega⟩
  obtain ⟨h1, h2, h3, h4⟩ := hv.hd h
  rw [qMw]
  refine iT (dT h3) (bS h1 ?_)
  by_cases hc : t.1.f0 = 11
  ·rw [dT hc, h4]
   simp only [cCur, hc, if_true, Bool.not_true, Bool.false_eq_true, if_false]
   exact cur_l hv a r n (qLw h) (by simp at hn; omega)
  ·rw [dF hc]
   simp only [cCur, hc, if_false, Bool.not_false, if_true]
   exact bS h1 rfl
theorem Vw.fu' (hv : Vw k s L to W) {ts : List Tkn} (h : ts <:+ W) : ts.length < k := Nat.lt_of_le_of_lt h.length_le hv.fu
theorem qHb (hv : Vw k s L to W) (ts : List Tkn) (h : ts <:+ W) : SimN (fun x => x) (fun _ => True) (i9 k s L (pos to ts) to) (c9 k ts) := by
 unfold i9 c9
 rw [cur_l hv _ ts k h (hv.fu' h)]
 exact sRN (x := cCur ts) trivial
def cNoted : List Tkn → Bool
 | [] => false
 | t :: _ => decide (t.1.f0 = 11)
theorem qDo (hv : Vw k s L to W) {ts : List Tkn} (h : ts <:+ W) : i15 k s L (pos to ts) to = some (cNoted ts) := by
 unfold i15
 cases ts with
 | nil => rw [qFh]; exact iF (dF (by omega)) rfl
 | cons t r =>
  obtain ⟨h1, h2, h3, h4⟩ := hv.hd h
  exact iT (dT h3) (bS h1 rfl)
def cNext : List Tkn → Option (List Tkn)
 | [] => none
 | t :: r => if t.1.f0 = 11 then none else some r
noncomputable def c11 (k : Nat) (ts : List Tkn) : Option (Option (List Tkn)) := some (cNext ts)
theorem must_t (k : Nat) : i16 k true = some (some ()) := rfl
theorem must_f (k : Nat) : i16 k false = some none := rfl
theorem qEb (hv : Vw k s L to W) (ts : List Tkn) (h : ts <:+ W) : SimN (Option.map (fun x => pos to x)) (oTh (fun x => x <:+ W)) (i11 k s L (pos to ts) to) (c11 k ts) := by
 unfold i11 c11
 cases ts with
 | nil =>
  rw [show (jn (fun (z1 : Unit) => some (some (fW .i64 (pos to [] + 1)))) _ : Option (Option Int)) = some none from jC (fun j => by rw [qFh]; exact iF (dF (by omega)) (by rw [must_f]; rfl))]
  exact sTh
 | cons t r =>
  obtain ⟨h1, h2, h3, h4⟩ := hv.hd h
  by_cases hc : t.1.f0 = 11
  ·rw [show (jn (fun (z1 : Unit) => some (some (fW .i64 (pos to (t :: r) + 1)))) _ : Option (Option Int)) = some none from jC (fun j => iT (dT h3) (bS (qDo hv h) (by rw [show cNoted (t :: r) = true by simp [cNoted, hc], show (!true) = false from rfl, must_f]; rfl)))]
   rw [show cNext (t :: r) = none by simp [cNext, hc]]
   exact sTh
  ·rw [show (jn (fun (z1 : Unit) => some (some (fW .i64 (pos to (t :: r) + 1)))) _ : Option (Option Int)) = some (some (pos to r)) from (jS (v := ()) (fun j => iT (dT h3) (bS (qDo hv h) (by rw [show cNoted (t :: r) = false by simp [cNoted, hc], show (!false) = true from rfl, must_t]; rfl)))).trans (by rw [h4])]
   rw [show cNext (t :: r) = some r by simp [cNext, hc]]
   exact sR (x := r) (qLw h)
def cNotes : List Tkn → List (List Nat) × List Tkn
 | [] => ([], [])
 | t :: r => if t.1.f0 = 11 then (t.1.f1 :: (cNotes r).1, (cNotes r).2) else ([], t :: r)
noncomputable def c12 (k : Nat) (ts : List Tkn) : Option (List (List Nat) × List Tkn) := some (cNotes ts)
theorem qF8 : ∀ ts : List Tkn, (cNotes ts).2 <:+ ts
 | [] => List.suffix_refl _
 | t :: r => by
  unfold cNotes
  split
  ·exact List.IsSuffix.trans (qF8 r) (List.suffix_cons t r)
  ·exact List.suffix_refl _
theorem qMr (hv : Vw k s L to W) : ∀ (ts : List Tkn) (n : Nat) (acc : List (List Nat)), ts <:+ W → ts.length < n → acc.length + ts.length < 1000000 → qEv k s L to n (pos to ts) acc = some (acc ++ (cNotes ts).1, pos to (cNotes ts).2)
 | [], n, acc, h, hn, ha => by
  obtain ⟨n, rfl⟩ : ∃ m, n = m + 1 := ⟨n - 1, by omega⟩
  rw [qKl]
  refine bS (qDo hv h) (iF rfl ?_)
  simp [cNotes]
 | t :: r, n, acc, h, hn, ha => by
  obtain ⟨n, rfl⟩ : ∃ m, n = m + 1 := ⟨n - 1, by omega⟩
  obtain ⟨h1, h2, h3, h4⟩ := hv.hd h
  rw [qKl]
  refine bS (qDo hv h) ?_
  by_cases hc : t.1.f0 = 11
  ·rw [show cNoted (t :: r) = true by simp [cNoted, hc]]
   refine iT rfl (bS h1 (bS (a := acc ++ [t.1.f1]) ?_ ?_))
   ·unfold appS; rw [if_pos ⟨by simp at ha ⊢; omega, by simp at ha ⊢; omega⟩]
   ·rw [h4, qMr hv r n (acc ++ [t.1.f1]) (qLw h) (by simp at hn; omega) (by simp at ha ⊢; omega)]
    simp [cNotes, hc]
  ·rw [show cNoted (t :: r) = false by simp [cNoted, hc]]
   refine iF rfl ?_
   simp [cNotes, hc]
theorem qG7 (hv : Vw k s L to W) (ts : List Tkn) (h : ts <:+ W) : SimN (fun x => (x.1, pos to x.2)) (fun x => x.2 <:+ W) (i12 k s L (pos to ts) to) (c12 k ts) := by
 unfold i12 c12
 rw [qMr hv ts k [] h (hv.fu' h) (by have := h.length_le; have := hv.sm; simp; omega)]
 exact sRN (x := cNotes ts) ((qF8 ts).trans h)
def cNl : List Tkn → Int
 | [] => 0
 | t :: _ => t.2
theorem qOr (hv : Vw k s L to W) {ts : List Tkn} (h : ts <:+ W) : g72 k s L (pos to ts) = some (cNl ts) := by
 cases ts with
 | nil => rw [qFh]; exact hv.fin
 | cons t r => exact (hv.hd h).2.1
noncomputable def c28 (k : Nat) (ts : List Tkn) : Option Bool := some (decide (0 < cNl ts))
theorem c28_sim (hv : Vw k s L to W) (ts : List Tkn) (h : ts <:+ W) : SimN (fun x => x) (fun _ => True) (i28 k s L (pos to ts) to) (c28 k ts) := by
 unfold i28 c28 g103
 rw [qOr hv h]
 exact sRN (x := decide (0 < cNl ts)) trivial
noncomputable def cBlank (ts : List Tkn) : Option Bool := some (decide (1 < cNl ts))
theorem qP0 (hv : Vw k s L to W) {ts : List Tkn} (h : ts <:+ W) : SimN (fun x => x) (fun _ => True) (g57 k s L (pos to ts)) (cBlank ts) := by
 unfold g57 cBlank
 rw [qOr hv h]
 exact sRN (x := decide (1 < cNl ts)) trivial
end
theorem qLs (k : Nat) {c : Nat} (hc : c < 256) (h : inrN c = false) : g92 k (c : Int) 10 = some (-1) := by
 have w := byteAll (f := fun c => inrN c || decide (g92 0 (c : Int) 10 = some (-1))) (by decide +kernel) hc
 simp only [h, Bool.false_or] at w
 exact of_decide_eq_true w
theorem qLt (k : Nat) : g92 k 49 10 = some 1 := rfl
def Ne (rest : List Nat) : Prop := rest = [] ∨ ∃ d q, rest = d :: q ∧ inrN d = false ∧ ¬ d = 46 ∧ ¬ d = 35
theorem qM5 {s rest : List Nat} {i : Nat} (hs : s.length < 399) (hb : ∀ b ∈ s, b < 128) (h : s.drop i = 49 :: rest) (hr : Ne rest) (b : Bool) : g73 400 s (i : Int) 10 b = some 1 := by
 have hl := qAk h
 unfold g73
 rw [show (400 : Nat) = 399 + 1 from rfl, qKn]
 refine (jD ?_)
 refine iT (dT (by omega)) (bS (nthX rfl h) (bS (qLt _) ((jS (v := (false, (i : Int))) (fun j => iF (by decide) rfl)).trans (iF rfl ?_))))
 show qEz 400 s (i : Int) 10 b 399 (fW .i64 ((i : Int) + 1)) = _
 rw [fw_s (by omega), show (399 : Nat) = 398 + 1 from rfl, qKn]
 have hfin : some (fW .i64 (((i + 1 : Nat) : Int) - (i : Int))) = some (1 : Int) := by rw [fwI (by omega) (by omega)]; congr 1; omega
 refine (jD ?_)
 rcases hr with rfl | ⟨d, q, rfl, hd, h1, h2⟩
 ·exact iF (dF (by simp at hl; omega)) hfin
 ·have h' := qAx h
  have hl' := qAk h'
  have hdm := hb d (qCg h')
  have h95 : ¬ d = 95 := by rintro rfl; cases hd
  refine iT (dT (by omega)) (bS (nthX rfl h') (bS (qLs _ (by omega) hd) ((jS (v := (true, ((i + 1 : Nat) : Int))) (fun j => iT (by decide) ?_)).trans (iT rfl hfin))))
  cases b with
  | false => exact iF rfl rfl
  | true => exact iT rfl (bS (nthX rfl h') (iF (dF (by omega)) rfl))
theorem one_tok {rest : List Nat} (hr : Ne rest) : TokAt [49] 3 rest := by
 intro s i hs hb h
 have h0 : s.drop i = 49 :: rest := h
 have hl := qAk h0
 have hr1 := qM5 hs hb h0 hr true
 have hr2 := qM5 hs hb h0 hr false
 have hcls : g38 400 (49 : Int) = some 3 := rfl
 have hi1 : fW .i64 ((i : Int) + 1) = ((i + 1 : Nat) : Int) := fw_s (by omega)
 have hbr : g61 400 s (i : Int) = some 0 := by
  unfold g61
  refine bS hr1 ((jS (v := true) (fun j => ?_)).trans (iT rfl rfl))
  rw [hi1]
  refine iF (dF (by omega)) ?_
  rcases hr with rfl | ⟨d, q, rfl, hd, h1, h2⟩
  ·exact iT (dT (by simp at hl; omega)) rfl
  ·have h' := qAx h0
   have hl' := qAk h'
   refine iF (dF (by omega)) (bS (nthX rfl h') ?_)
   rw [dF (by omega)]; rfl
 have hwh : g62 400 s (i : Int) = some 1 := by
  unfold g62
  refine bS hr1 (bS hr2 ((jS (v := false) (fun j => ?_)).trans ?_))
  ·rw [hi1]
   refine iT (by decide) (iT (by decide) ?_)
   rcases hr with rfl | ⟨d, q, rfl, hd, h1, h2⟩
   ·exact iF (dF (by simp at hl; omega)) rfl
   ·have h' := qAx h0
    have hl' := qAk h'
    refine iT (dT (by omega)) (bS (nthX rfl h') ?_)
    rw [dF (by omega)]
  ·exact (jD (iF rfl rfl))
 have hsub : subL s (some (i : Int)) (some ((i + 1 : Nat) : Int)) = some [49] := by
  rw [subMid (i := i) (j := i + 1) rfl rfl (by omega) (by omega), List.drop_take, h0]
  simp
 have hnum : g39 400 s (i : Int) = some (⟨3, [49], (i : Int)⟩, 0) := by
  unfold g39
  refine bS hbr ((jS (v := (3, 1)) (fun j => iT (by decide) (bS hwh rfl))).trans ?_)
  show (jn _ _ : Option (S33 × Int)) = _
  refine (jS (v := false) (fun j => iF (by decide) ?_)).trans (iF rfl ?_)
  ·show (if decide (fW .i64 ((i : Int) + 1) < (s.length : Int)) then _ else _) = _
   rw [hi1]
   rcases hr with rfl | ⟨d, q, rfl, hd, h1, h2⟩
   ·exact iF (dF (by simp at hl; omega)) rfl
   ·have h' := qAx h0
    have hl' := qAk h'
    have := qD8 400 (c := d) (by have := hb d (qCg h'); omega)
    rw [hd] at this
    exact iT (dT (by omega)) (bS (nthX rfl h') (bS this rfl))
  ·refine (jS (v := false) (fun j => iT (by decide) ?_)).trans ?_
   ·show (if decide (fW .i64 ((i : Int) + 1) < (s.length : Int)) then _ else _) = _
    rw [hi1]
    rcases hr with rfl | ⟨d, q, rfl, hd, h1, h2⟩
    ·exact iF (dF (by simp at hl; omega)) rfl
    ·have h' := qAx h0
     have hl' := qAk h'
     refine iT (dT (by omega)) (bS (nthX rfl h') ?_)
     rw [dF (by omega)]
   ·refine jD (iF rfl ?_)
    show (subL s (some (i : Int)) (some (fW .i64 ((i : Int) + 1)))).bind _ = _
    rw [hi1]
    exact bS hsub rfl
 unfold g26
 refine (jS (v := false) (fun j => iF (dF (by omega)) (by rw [dF (by omega)]))).trans (iF rfl (bS (nthX rfl h0) ?_))
 refine iF (by decide) ((jS (v := false) (fun j => iF (by decide) rfl)).trans ?_)
 refine jD (iF rfl (bS hcls (iT (by decide) (bS hnum rfl))))
theorem qHa {s rest : List Nat} {a : Int} (hs : s.length < 399) (hr : rest = [] ∨ ∃ q, rest = 10 :: q) {R : S33 × Int} : ∀ (u : List Nat) (i n : Nat), (∀ c ∈ u, ¬ c = 10) → s.drop i = u ++ rest → i ≤ s.length → u.length < n →
 ((subL s (some a) (some ((i + u.length : Nat) : Int))).bind fun x16_3 => (g37 400 x16_3).bind fun x16_4 => some ((⟨(11 : Int), x16_4, a⟩ : S33), (0 : Int))) = some R → qC5 400 s a n (i : Int) = some R
 | [], i, n, hu, h, hi, hn, hR => by
  obtain ⟨n, rfl⟩ : ∃ m, n = m + 1 := ⟨n - 1, by omega⟩
  rw [qH4]
  refine (jS (v := (false, (i : Int))) (fun j => ?_)).trans (iF rfl hR)
  rcases hr with rfl | ⟨q, rfl⟩
  ·have : s.length ≤ i := List.drop_eq_nil_iff.1 (by simpa using h)
   exact iF (dF (by omega)) rfl
  ·have h' : s.drop i = 10 :: q := by simpa using h
   have := qAk h'
   exact iT (dT (by omega)) (bS (nthX rfl h') rfl)
 | c :: u, i, n, hu, h, hi, hn, hR => by
  obtain ⟨n, rfl⟩ : ∃ m, n = m + 1 := ⟨n - 1, by omega⟩
  have h' : s.drop i = c :: (u ++ rest) := h
  have hl := qAk h'
  have hc := hu c List.mem_cons_self
  rw [qH4]
  refine (jS (v := (true, (i : Int))) (fun j => iT (dT (by omega)) (bS (nthX rfl h') ?_))).trans (iT rfl ?_)
  ·rw [dF (by omega)]; rfl
  ·show qC5 400 s a n (fW .i64 ((i : Int) + 1)) = _
   rw [fw_s (by omega)]
   refine qHa hs hr u (i + 1) n (fun d hd => hu d (List.mem_cons_of_mem _ hd)) (qAx h') (by omega) (by simpa using hn) ?_
   rw [← hR]
   simp only [List.length_cons]
   rw [show i + 1 + u.length = i + (u.length + 1) by omega]
theorem qIv {t rest : List Nat} {q : List Nat} (ht : t = 37 :: q) (hn : ∀ c ∈ t, ¬ c = 10) (htr : g37 400 t = some t) (hr : rest = [] ∨ ∃ q, rest = 10 :: q) : TokAt t 11 rest := by
 intro s i hs hb h
 have hd' := qMl h ht
 have hlen := qAk hd'
 have hlt : i + t.length ≤ s.length := by
  have := congrArg List.length h
  simp only [List.length_append, List.length_drop] at this
  omega
 have hsub : subL s (some (i : Int)) (some ((i + t.length : Nat) : Int)) = some t := by
  rw [subMid (i := i) (j := i + t.length) rfl rfl (by omega) hlt, List.drop_take, h]
  simp
 unfold g26
 refine (jS (v := false) (fun j => iF (dF (by omega)) (by rw [dF (by omega)]))).trans (iF rfl (bS (nthX rfl hd') (iT (by decide) ?_)))
 exact qHa hs hr t i 400 hn h (by omega) (by omega) (bS hsub (bS htr rfl))
def vwp (f : Bool) (i : Nat) : List Pc → List Tkn
 | [] => []
 | p :: r => (⟨p.k, p.t, ((i + p.w.length : Nat) : Int)⟩, if f then 0 else ((p.w.count 10 : Nat) : Int)) :: vwp false (i + p.w.length + p.t.length) r
theorem qHf : ∀ (ps : List Pc) (f : Bool) (i : Nat), (vwp f i ps).map (·.1) = tkp i ps
 | [], _, _ => rfl
 | p :: r, f, i => by simp [vwp, tkp, qHf r]
theorem qDs (ps : List Pc) (f : Bool) (i : Nat) : (vwp f i ps).length = ps.length := by
 induction ps generalizing f i with
 | nil => rfl
 | cons p r ih => simp [vwp, ih]
theorem qLq : ∀ (ps : List Pc) (f : Bool) (i j : Nat) (t : Tkn), (vwp f i ps)[j + 1]? = some t → ∃ (p p2 : Pc) (o : Nat) (rest : List Nat), (tkp i ps)[j]? = some ⟨p.k, p.t, ((o - p.t.length : Nat) : Int)⟩ ∧ p.t.length ≤ o - i ∧ i ≤ o ∧ t = (⟨p2.k, p2.t, ((o + p2.w.length : Nat) : Int)⟩, ((p2.w.count 10 : Nat) : Int)) ∧ (tkp i ps)[j + 1]? = some t.1 ∧ (txt ps).drop (o - i) = p2.w ++ (p2.t ++ rest) ∧ o - i ≤ (txt ps).length
 | [], f, i, j, t, h => by simp [vwp] at h
 | [p], f, i, j, t, h => by simp [vwp] at h
 | p :: p2 :: r, f, i, 0, t, h => by
  simp only [vwp, List.getElem?_cons_succ, List.getElem?_cons_zero, Option.some.injEq, Bool.false_eq_true, if_false] at h
  subst h
  refine ⟨p, p2, i + p.w.length + p.t.length, txt r, ?_, by omega, by omega, rfl, ?_, ?_, ?_⟩
  ·simp only [tkp, List.getElem?_cons_zero]
   rw [show i + p.w.length + p.t.length - p.t.length = i + p.w.length by omega]
  ·simp [tkp]
  ·rw [show i + p.w.length + p.t.length - i = p.w.length + p.t.length by omega, ← List.drop_drop]
   simp [txt]
  ·simp [txt]; omega
 | p :: p2 :: r, f, i, j + 1, t, h => by
  simp only [vwp, List.getElem?_cons_succ] at h
  obtain ⟨q, q2, o, rest, h1, h2, h3, h4, h5, h6, h7⟩ := qLq (p2 :: r) false (i + p.w.length + p.t.length) j t (by simp only [vwp, List.getElem?_cons_succ]; exact h)
  refine ⟨q, q2, o, rest, ?_, by omega, by omega, h4, ?_, ?_, ?_⟩
  ·simp only [tkp, List.getElem?_cons_succ]; simpa [tkp] using h1
  ·simp only [tkp, List.getElem?_cons_succ]; simpa [tkp] using h5
  ·rw [← h6]
   have : o - i = p.w.length + (p.t.length + (o - (i + p.w.length + p.t.length))) := by omega
   rw [this, ← List.drop_drop, ← List.drop_drop, txt, List.drop_left, List.drop_left]
  ·rw [txt]
   simp only [List.length_append]
   omega
theorem qMs {k : Nat} {s : List Nat} {L : List S33} {a2 : Int} {t : S33} {e : Nat} {rest : List Nat} (hs : s.length < 1000) (hL : nthL L a2 = some t) (he : t.f2 = (e : Int)) : ∀ (w : List Nat) (y n c : Nat), s.drop y = w ++ rest → y + w.length = e → e ≤ s.length → w.length < n → c + w.length < 1000 → qF k s L a2 n (y : Int) (c : Int) = some ((c + w.count 10 : Nat) : Int)
 | [], y, n, c, h, hy, hes, hn, hc => by
  obtain ⟨n, rfl⟩ : ∃ m, n = m + 1 := ⟨n - 1, by omega⟩
  rw [qKo]
  refine bS hL (iF (dF (by rw [he]; simp at hy; omega)) (by simp))
 | b :: w, y, n, c, h, hy, hes, hn, hc => by
  obtain ⟨n, rfl⟩ : ∃ m, n = m + 1 := ⟨n - 1, by omega⟩
  have h' : s.drop y = b :: (w ++ rest) := h
  simp only [List.length_cons] at hy hn hc
  rw [qKo]
  refine bS hL (iT (dT (by rw [he]; omega)) (bS (nthX rfl h') ?_))
  by_cases hb : b = 10
  ·subst hb
   refine bS (a := ((c + 1 : Nat) : Int)) ?_ ?_
   ·unfold i2
    exact iT (by decide) (by rw [fw_s (by omega)])
   ·rw [fw_s (by omega), qMs hs hL he w (y + 1) n (c + 1) (qAx h') (by omega) hes (by omega) (by omega), List.count_cons_self]
    congr 2; omega
  ·refine bS (a := (c : Int)) ?_ ?_
   ·unfold i2
    exact iF (dF (by omega)) rfl
   ·rw [fw_s (by omega), qMs hs hL he w (y + 1) n c (qAx h') (by omega) hes (by omega) (by omega), List.count_cons_of_ne hb]
theorem qGw {k : Nat} {s : List Nat} {t : S33} {e : Nat} (hs : s.length < 1000) (he : t.f2 = (e : Int)) (h : e + t.f1.length ≤ s.length) : g89 k s t = some true := by
 unfold g89
 refine iT (dT (by omega)) (iT (dT (by omega)) ?_)
 rw [he, fw_d (by omega) (by omega), dT (by omega)]
theorem end_at {k : Nat} {t : S33} {e : Nat} (he : t.f2 = (e : Int)) (h : e + t.f1.length < 1000) : g90 k t = some ((e + t.f1.length : Nat) : Int) := by
 unfold g90
 rw [he, fw_a (by omega) (by omega)]
theorem vw_pc {ps : List Pc} (hs : (txt ps).length < 290) (hn : ps.length < 290) (k : Nat) (hk : 300 ≤ k) : Vw k (txt ps) (tkp 0 ps) ((tkp 0 ps).length : Int) (vwp true 0 ps) := by
 have hlen : (tkp 0 ps).length = ps.length := by rw [← qHf ps true 0, List.length_map, qDs]
 refine ⟨by rw [hlen, qDs], ?_, ?_, by rw [qDs]; omega, by rw [qDs]; omega⟩
 ·intro i t h
  have h1 : (tkp 0 ps)[i]? = some t.1 := by rw [← qHf ps true 0, List.getElem?_map, h]; rfl
  have hi : i < ps.length := by have := (List.getElem?_eq_some_iff.1 h).1; rw [qDs] at this; exact this
  have hN : ∀ (j : Nat) x, (tkp 0 ps)[j]? = some x → nthL (tkp 0 ps) (j : Int) = some x := by
   intro j x hx
   unfold nthL
   rw [if_pos (by omega), Int.toNat_natCast, hx]
  refine ⟨hN i _ h1, ?_⟩
  cases i with
  | zero =>
   unfold g72
   refine (jS (v := true) (fun j => iT (by decide) rfl)).trans (iT rfl ?_)
   cases ps with
   | nil => simp at hi
   | cons p r => simp only [vwp, List.getElem?_cons_zero, Option.some.injEq] at h; subst h; rfl
  | succ j =>
   obtain ⟨p, p2, o, rest, e1, e2, e3, e4, e5, e6, e7⟩ := qLq ps true 0 j t h
   simp only [Nat.sub_zero] at e2 e6 e7
   have hN1 : nthL (tkp 0 ps) (fW .i64 (((j + 1 : Nat) : Int) - 1)) = some ⟨p.k, p.t, ((o - p.t.length : Nat) : Int)⟩ := by rw [fw_p (by omega)]; exact hN j _ e1
   have hN2 := hN (j + 1) _ e5
   have hin2 : o + p2.w.length + p2.t.length ≤ (txt ps).length := by
    have := congrArg List.length e6
    simp only [List.length_append, List.length_drop] at this
    omega
   subst e4
   have i1 : g89 k (txt ps) ⟨p.k, p.t, ((o - p.t.length : Nat) : Int)⟩ = some true := qGw (by omega) rfl (by show o - p.t.length + p.t.length ≤ _; omega)
   have i2 : g89 k (txt ps) ⟨p2.k, p2.t, ((o + p2.w.length : Nat) : Int)⟩ = some true := qGw (by omega) rfl (by show o + p2.w.length + p2.t.length ≤ _; omega)
   have n1 : g90 k ⟨p.k, p.t, ((o - p.t.length : Nat) : Int)⟩ = some (o : Int) := by
    have := end_at (k := k) (t := ⟨p.k, p.t, ((o - p.t.length : Nat) : Int)⟩) rfl (by show o - p.t.length + p.t.length < _; omega)
    rw [this]
    show some ((o - p.t.length + p.t.length : Nat) : Int) = _
    rw [show o - p.t.length + p.t.length = o by omega]
   unfold g72
   refine (jS (v := false) (fun q => ?_)).trans (iF rfl ?_)
   ·refine iF (dF (by omega)) (iF (dF (by omega)) (bS hN1 (bS i1 (iF rfl (bS hN2 (bS i2 (iF rfl (bS hN1 (bS n1 (bS hN2 ?_))))))))))
    rw [dF (by show ¬ ((o + p2.w.length : Nat) : Int) < (o : Int); omega)]
   ·refine bS hN1 (bS n1 ?_)
    have := qMs (k := k) (s := txt ps) (L := tkp 0 ps) (rest := p2.t ++ rest) (by omega) hN2 (e := o + p2.w.length) rfl p2.w o k 0 e6 rfl (by omega) (by omega) (by omega)
    simpa using this
 ·unfold g72
  refine (jS (v := true) (fun j => ?_)).trans (iT rfl rfl)
  by_cases h0 : (((tkp 0 ps).length : Nat) : Int) < 1
  ·exact iT (dT h0) rfl
  ·exact iF (dF h0) (iT (dT (by omega)) rfl)
end Go.Proofs.Ythpplbkobokghaa.Am
set_option maxRecDepth 100000
set_option linter.unusedVariables false
set_option linter.unusedSimpArgs false
namespace Go.Proofs.Ythpplbkobokghaa.Am
noncomputable section
open Go
def c10 (k : Nat) (a0 : (List Nat)) (a3 : (List Tkn)) : Option Bool :=
 (c9 k a3).bind fun x0_1 => if (decide (x0_1.f0 = 9)) then (some (eqL x0_1.f1 a0)) else (if (decide (x0_1.f0 = 8)) then (some (eqL x0_1.f1 a0)) else (some false))
def c33 (k : Nat) (a0 : (List Int)) (a3 : (List Tkn)) : Option (Option ((List Nat) × (List Tkn))) :=
 (c9 k a3).bind fun x0_1 => (g104 k a0 x0_1.f0).bind fun x1_3 => bT (i16 k x1_3) fun x1_4 => bT (c11 k a3) fun x2_1 => some (some (x0_1.f1, x2_1))
def c22 (k : Nat) (a2 : (List Tkn)) : Option (Option ((List Nat) × (List Tkn))) :=
 bT (c33 k i22c0 a2) fun x0_2 => some (some (x0_2.1, x0_2.2))
def c7 (k : Nat) (a0 : (List Nat)) (a3 : (List Tkn)) : Option (Option (Bool × (List Tkn))) :=
 (c10 k a0 a3).bind fun x0_2 => if (!x0_2) then (some (some (false, a3))) else (bT (c11 k a3) fun x1_1 => some (some (true, x1_1)))
def c23 (k : Nat) (a0 : (List Nat)) (a3 : (List Tkn)) : Option (Option (List Tkn)) :=
 bT (c7 k a0 a3) fun x0_2 => bT (i16 k x0_2.1) fun x0_3 => some (some x0_2.2)
theorem qJ0 {k : Nat} {s : List Nat} {L : List S33} {to : Int} {W : (List Tkn)} (hv : Vw k s L to W)  (a0 : (List Nat)) (a3 : (List Tkn)) (h : a3 <:+ W) : SimN (fun x => x) (fun _ => True) (i10 k a0 s L (pos to a3) to) (c10 k a0 a3) := by
 unfold i10 c10
 exact sB (qHb hv a3 h) fun x0_1 hx0_1 => sI (sRN (x := (eqL x0_1.f1 a0)) trivial) (sI (sRN (x := (eqL x0_1.f1 a0)) trivial) (sRN (x := false) trivial))
theorem c33_sim {k : Nat} {s : List Nat} {L : List S33} {to : Int} {W : (List Tkn)} (hv : Vw k s L to W)  (a0 : (List Int)) (a3 : (List Tkn)) (h : a3 <:+ W) : SimN (Option.map (fun x => (x.1, pos to x.2))) (oTh (fun x => x.2 <:+ W)) (i33 k a0 s L (pos to a3) to) (c33 k a0 a3) := by
 unfold i33 c33
 exact sB (qHb hv a3 h) fun x0_1 hx0_1 => sE fun x1_3 => sTE fun x1_4 => sT (qEb hv a3 h) fun x2_1 hx2_1 => sR (x := (x0_1.f1, x2_1)) hx2_1
theorem c22_sim {k : Nat} {s : List Nat} {L : List S33} {to : Int} {W : (List Tkn)} (hv : Vw k s L to W)  (a2 : (List Tkn)) (h : a2 <:+ W) : SimN (Option.map (fun x => (x.1, pos to x.2))) (oTh (fun x => x.2 <:+ W)) (i22 k s L (pos to a2) to) (c22 k a2) := by
 unfold i22 c22
 exact sT (c33_sim hv i22c0 a2 h) fun x0_2 hx0_2 => sR (x := (x0_2.1, x0_2.2)) hx0_2
theorem qBi {k : Nat} {s : List Nat} {L : List S33} {to : Int} {W : (List Tkn)} (hv : Vw k s L to W)  (a0 : (List Nat)) (a3 : (List Tkn)) (h : a3 <:+ W) : SimN (Option.map (fun x => (x.1, pos to x.2))) (oTh (fun x => x.2 <:+ W)) (i7 k a0 s L (pos to a3) to) (c7 k a0 a3) := by
 unfold i7 c7
 exact sB (qJ0 hv a0 a3 h) fun x0_2 hx0_2 => sI (sR (x := (false, a3)) h) (sT (qEb hv a3 h) fun x1_1 hx1_1 => sR (x := (true, x1_1)) hx1_1)
theorem qOx {k : Nat} {s : List Nat} {L : List S33} {to : Int} {W : (List Tkn)} (hv : Vw k s L to W)  (a0 : (List Nat)) (a3 : (List Tkn)) (h : a3 <:+ W) : SimN (Option.map (fun x => pos to x)) (oTh (fun x => x <:+ W)) (i23 k a0 s L (pos to a3) to) (c23 k a0 a3) := by
 unfold i23 c23
 exact sT (qBi hv a0 a3 h) fun x0_2 hx0_2 => sTE fun x0_3 => sR (x := x0_2.2) hx0_2
structure Cns where
 c5 : Int → (List Tkn) → Option (Option (S28 × (List Tkn)))
 c6 : (List Tkn) → Option (Option (S28 × (List Tkn)))
 c8 : (List Tkn) → Option (Option (S28 × Int × (List Tkn)))
 c13 : (List Tkn) → Option (Option (S28 × Bool × (List Tkn)))
 c14 : S28 → Bool → (List Tkn) → Option (Option (S28 × (List Tkn)))
 c17 : (List Tkn) → Option (Option (S28 × (List Tkn)))
 c18 : Int → (List Nat) → Bool → Bool → (List (List Nat)) → (List (List Nat)) → (List Nat) → (List Tkn) → (List S28) → Option (Option (Int × (List Nat) × Bool × Bool × (List (List Nat)) × (List (List Nat)) × (List Tkn) × (List S28)))
 c19 : (List Tkn) → Option (Option (S28 × (List Tkn)))
 c20 : Int → (List Nat) → Bool → Bool → (List (List Nat)) → (List (List Nat)) → (List Nat) → (List Tkn) → (List S28) → Option (Option (Int × (List Nat) × Bool × Bool × (List (List Nat)) × (List (List Nat)) × (List Tkn) × (List S28)))
 c21 : Int → (List Nat) → Bool → Bool → (List (List Nat)) → (List (List Nat)) → (List Nat) → (List Tkn) → (List S28) → Option (Option (Int × (List Nat) × Bool × Bool × (List (List Nat)) × (List (List Nat)) × (List Tkn) × (List S28)))
 c24 : (List Tkn) → Option (Option (S28 × (List Tkn)))
 c25 : (List Tkn) → Option (Option (S28 × (List Tkn)))
 c26 : S28 → (List Tkn) → Option (Option (S28 × (List Tkn)))
 c29 : (List Tkn) → Option (Option (S28 × (List Tkn)))
 c30 : Int → (List Nat) → Bool → Bool → (List (List Nat)) → (List (List Nat)) → (List Tkn) → (List S28) → Option (Option (Int × (List Nat) × Bool × Bool × (List (List Nat)) × (List (List Nat)) × (List Tkn) × (List S28)))
 c31 : (List Tkn) → Option (Option (S28 × (List Tkn)))
 c32 : (List Tkn) → Option (Option (S28 × (List Tkn)))
 c34 : (List Tkn) → Option (Option (S28 × (List Tkn)))
 c36 : Int → (List Nat) → Bool → Bool → (List (List Nat)) → (List (List Nat)) → (List Tkn) → (List S28) → Option (Option (Int × (List Nat) × Bool × Bool × (List (List Nat)) × (List (List Nat)) × (List Tkn) × (List S28)))
 c37 : Int → (List Nat) → Bool → Bool → (List (List Nat)) → (List (List Nat)) → (List Tkn) → (List S28) → Option (Option (Int × (List Nat) × Bool × Bool × (List (List Nat)) × (List (List Nat)) × (List Tkn) × (List S28)))
 c38 : (List Tkn) → Option (Option (S28 × (List Tkn)))
 c40 : (List (List Nat)) → (List Tkn) → Option (Option ((List S28) × (List Tkn)))
 c41 : (List (List Nat)) → (List Tkn) → Option (Option ((List S28) × (List Tkn)))
 c42 : (List (List Nat)) → (List Tkn) → Option (Option ((List S28) × (List Tkn)))
 c43 : (List (List Nat)) → (List Tkn) → Option (Option ((List Tkn) × (List S28)))
 c44 : (List Tkn) → Option (Option (S28 × (List Tkn)))
 c45 : (List Tkn) → Option (Option (S28 × (List Tkn)))
 c46 : (List Tkn) → Option (Option (S28 × (List Tkn)))
 c47 : (List Nat) → S28 → S28 → (List Tkn) → Option (Option (S28 × (List Tkn)))
 c48 : (List Nat) → (List Tkn) → Option (Option (S28 × (List Tkn)))
 c49 : (List Tkn) → Option (Option (S28 × (List Tkn)))
 c50 : (List Tkn) → Option (Option (S28 × (List Tkn)))
 c51 : (List Tkn) → Option (Option (S28 × (List Tkn)))
 c52 : (List Tkn) → Option (Option (S28 × (List Tkn)))
structure SimC (s : List Nat) (L : List S33) (to : Int) (W : (List Tkn)) (F : Fns0) (C : Cns) : Prop where
 c5 : ∀ (a0 : Int) (a3 : (List Tkn)), a3 <:+ W → SimN (Option.map (fun x => (x.1, pos to x.2))) (oTh (fun x => x.2 <:+ W)) (F.i5 a0 s L (pos to a3) to) (C.c5 a0 a3)
 c6 : ∀ (a2 : (List Tkn)), a2 <:+ W → SimN (Option.map (fun x => (x.1, pos to x.2))) (oTh (fun x => x.2 <:+ W)) (F.i6 s L (pos to a2) to) (C.c6 a2)
 c8 : ∀ (a2 : (List Tkn)), a2 <:+ W → SimN (Option.map (fun x => (x.1, x.2.1, pos to x.2.2))) (oTh (fun x => x.2.2 <:+ W)) (F.i8 s L (pos to a2) to) (C.c8 a2)
 c13 : ∀ (a2 : (List Tkn)), a2 <:+ W → SimN (Option.map (fun x => (x.1, x.2.1, pos to x.2.2))) (oTh (fun x => x.2.2 <:+ W)) (F.i13 s L (pos to a2) to) (C.c13 a2)
 c14 : ∀ (a0 : S28) (a1 : Bool) (a4 : (List Tkn)), a4 <:+ W → SimN (Option.map (fun x => (x.1, pos to x.2))) (oTh (fun x => x.2 <:+ W)) (F.i14 a0 a1 s L (pos to a4) to) (C.c14 a0 a1 a4)
 c17 : ∀ (a2 : (List Tkn)), a2 <:+ W → SimN (Option.map (fun x => (x.1, pos to x.2))) (oTh (fun x => x.2 <:+ W)) (F.i17 s L (pos to a2) to) (C.c17 a2)
 c18 : ∀ (a0 : Int) (a1 : (List Nat)) (a2 : Bool) (a3 : Bool) (a4 : (List (List Nat))) (a5 : (List (List Nat))) (a6 : (List Nat)) (a9 : (List Tkn)) (b1 : (List S28)), a9 <:+ W → SimN (Option.map (fun x => (x.1, x.2.1, x.2.2.1, x.2.2.2.1, x.2.2.2.2.1, x.2.2.2.2.2.1, pos to x.2.2.2.2.2.2.1, x.2.2.2.2.2.2.2))) (oTh (fun x => x.2.2.2.2.2.2.1 <:+ W)) (F.i18 a0 a1 a2 a3 a4 a5 a6 s L (pos to a9) to b1) (C.c18 a0 a1 a2 a3 a4 a5 a6 a9 b1)
 c19 : ∀ (a2 : (List Tkn)), a2 <:+ W → SimN (Option.map (fun x => (x.1, pos to x.2))) (oTh (fun x => x.2 <:+ W)) (F.i19 s L (pos to a2) to) (C.c19 a2)
 c20 : ∀ (a0 : Int) (a1 : (List Nat)) (a2 : Bool) (a3 : Bool) (a4 : (List (List Nat))) (a5 : (List (List Nat))) (a6 : (List Nat)) (a9 : (List Tkn)) (b1 : (List S28)), a9 <:+ W → SimN (Option.map (fun x => (x.1, x.2.1, x.2.2.1, x.2.2.2.1, x.2.2.2.2.1, x.2.2.2.2.2.1, pos to x.2.2.2.2.2.2.1, x.2.2.2.2.2.2.2))) (oTh (fun x => x.2.2.2.2.2.2.1 <:+ W)) (F.i20 a0 a1 a2 a3 a4 a5 a6 s L (pos to a9) to b1) (C.c20 a0 a1 a2 a3 a4 a5 a6 a9 b1)
 c21 : ∀ (a0 : Int) (a1 : (List Nat)) (a2 : Bool) (a3 : Bool) (a4 : (List (List Nat))) (a5 : (List (List Nat))) (a6 : (List Nat)) (a9 : (List Tkn)) (b1 : (List S28)), a9 <:+ W → SimN (Option.map (fun x => (x.1, x.2.1, x.2.2.1, x.2.2.2.1, x.2.2.2.2.1, x.2.2.2.2.2.1, pos to x.2.2.2.2.2.2.1, x.2.2.2.2.2.2.2))) (oTh (fun x => x.2.2.2.2.2.2.1 <:+ W)) (F.i21 a0 a1 a2 a3 a4 a5 a6 s L (pos to a9) to b1) (C.c21 a0 a1 a2 a3 a4 a5 a6 a9 b1)
 c24 : ∀ (a2 : (List Tkn)), a2 <:+ W → SimN (Option.map (fun x => (x.1, pos to x.2))) (oTh (fun x => x.2 <:+ W)) (F.i24 s L (pos to a2) to) (C.c24 a2)
 c25 : ∀ (a2 : (List Tkn)), a2 <:+ W → SimN (Option.map (fun x => (x.1, pos to x.2))) (oTh (fun x => x.2 <:+ W)) (F.i25 s L (pos to a2) to) (C.c25 a2)
 c26 : ∀ (a0 : S28) (a3 : (List Tkn)), a3 <:+ W → SimN (Option.map (fun x => (x.1, pos to x.2))) (oTh (fun x => x.2 <:+ W)) (F.i26 a0 s L (pos to a3) to) (C.c26 a0 a3)
 c29 : ∀ (a2 : (List Tkn)), a2 <:+ W → SimN (Option.map (fun x => (x.1, pos to x.2))) (oTh (fun x => x.2 <:+ W)) (F.i29 s L (pos to a2) to) (C.c29 a2)
 c30 : ∀ (a0 : Int) (a1 : (List Nat)) (a2 : Bool) (a3 : Bool) (a4 : (List (List Nat))) (a5 : (List (List Nat))) (a8 : (List Tkn)) (b1 : (List S28)), a8 <:+ W → SimN (Option.map (fun x => (x.1, x.2.1, x.2.2.1, x.2.2.2.1, x.2.2.2.2.1, x.2.2.2.2.2.1, pos to x.2.2.2.2.2.2.1, x.2.2.2.2.2.2.2))) (oTh (fun x => x.2.2.2.2.2.2.1 <:+ W)) (F.i30 a0 a1 a2 a3 a4 a5 s L (pos to a8) to b1) (C.c30 a0 a1 a2 a3 a4 a5 a8 b1)
 c31 : ∀ (a2 : (List Tkn)), a2 <:+ W → SimN (Option.map (fun x => (x.1, pos to x.2))) (oTh (fun x => x.2 <:+ W)) (F.i31 s L (pos to a2) to) (C.c31 a2)
 c32 : ∀ (a2 : (List Tkn)), a2 <:+ W → SimN (Option.map (fun x => (x.1, pos to x.2))) (oTh (fun x => x.2 <:+ W)) (F.i32 s L (pos to a2) to) (C.c32 a2)
 c34 : ∀ (a2 : (List Tkn)), a2 <:+ W → SimN (Option.map (fun x => (x.1, pos to x.2))) (oTh (fun x => x.2 <:+ W)) (F.i34 s L (pos to a2) to) (C.c34 a2)
 c36 : ∀ (a0 : Int) (a1 : (List Nat)) (a2 : Bool) (a3 : Bool) (a4 : (List (List Nat))) (a5 : (List (List Nat))) (a8 : (List Tkn)) (b1 : (List S28)), a8 <:+ W → SimN (Option.map (fun x => (x.1, x.2.1, x.2.2.1, x.2.2.2.1, x.2.2.2.2.1, x.2.2.2.2.2.1, pos to x.2.2.2.2.2.2.1, x.2.2.2.2.2.2.2))) (oTh (fun x => x.2.2.2.2.2.2.1 <:+ W)) (F.i36 a0 a1 a2 a3 a4 a5 s L (pos to a8) to b1) (C.c36 a0 a1 a2 a3 a4 a5 a8 b1)
 c37 : ∀ (a0 : Int) (a1 : (List Nat)) (a2 : Bool) (a3 : Bool) (a4 : (List (List Nat))) (a5 : (List (List Nat))) (a8 : (List Tkn)) (b1 : (List S28)), a8 <:+ W → SimN (Option.map (fun x => (x.1, x.2.1, x.2.2.1, x.2.2.2.1, x.2.2.2.2.1, x.2.2.2.2.2.1, pos to x.2.2.2.2.2.2.1, x.2.2.2.2.2.2.2))) (oTh (fun x => x.2.2.2.2.2.2.1 <:+ W)) (F.i37 a0 a1 a2 a3 a4 a5 s L (pos to a8) to b1) (C.c37 a0 a1 a2 a3 a4 a5 a8 b1)
 c38 : ∀ (a2 : (List Tkn)), a2 <:+ W → SimN (Option.map (fun x => (x.1, pos to x.2))) (oTh (fun x => x.2 <:+ W)) (F.i38 s L (pos to a2) to) (C.c38 a2)
 c40 : ∀ (a0 : (List (List Nat))) (a3 : (List Tkn)), a3 <:+ W → SimN (Option.map (fun x => (x.1, pos to x.2))) (oTh (fun x => x.2 <:+ W)) (F.i40 a0 s L (pos to a3) to) (C.c40 a0 a3)
 c41 : ∀ (a0 : (List (List Nat))) (a3 : (List Tkn)), a3 <:+ W → SimN (Option.map (fun x => (x.1, pos to x.2))) (oTh (fun x => x.2 <:+ W)) (F.i41 a0 s L (pos to a3) to) (C.c41 a0 a3)
 c42 : ∀ (a0 : (List (List Nat))) (a3 : (List Tkn)), a3 <:+ W → SimN (Option.map (fun x => (x.1, pos to x.2))) (oTh (fun x => x.2 <:+ W)) (F.i42 a0 s L (pos to a3) to) (C.c42 a0 a3)
 c43 : ∀ (a0 : (List (List Nat))) (a3 : (List Tkn)), a3 <:+ W → SimN (Option.map (fun x => (pos to x.1, x.2))) (oTh (fun x => x.1 <:+ W)) (F.i43 a0 s L (pos to a3) to) (C.c43 a0 a3)
 c44 : ∀ (a2 : (List Tkn)), a2 <:+ W → SimN (Option.map (fun x => (x.1, pos to x.2))) (oTh (fun x => x.2 <:+ W)) (F.i44 s L (pos to a2) to) (C.c44 a2)
 c45 : ∀ (a2 : (List Tkn)), a2 <:+ W → SimN (Option.map (fun x => (x.1, pos to x.2))) (oTh (fun x => x.2 <:+ W)) (F.i45 s L (pos to a2) to) (C.c45 a2)
 c46 : ∀ (a2 : (List Tkn)), a2 <:+ W → SimN (Option.map (fun x => (x.1, pos to x.2))) (oTh (fun x => x.2 <:+ W)) (F.i46 s L (pos to a2) to) (C.c46 a2)
 c47 : ∀ (a0 : (List Nat)) (a1 : S28) (a2 : S28) (a5 : (List Tkn)), a5 <:+ W → SimN (Option.map (fun x => (x.1, pos to x.2))) (oTh (fun x => x.2 <:+ W)) (F.i47 a0 a1 a2 s L (pos to a5) to) (C.c47 a0 a1 a2 a5)
 c48 : ∀ (a0 : (List Nat)) (a3 : (List Tkn)), a3 <:+ W → SimN (Option.map (fun x => (x.1, pos to x.2))) (oTh (fun x => x.2 <:+ W)) (F.i48 a0 s L (pos to a3) to) (C.c48 a0 a3)
 c49 : ∀ (a2 : (List Tkn)), a2 <:+ W → SimN (Option.map (fun x => (x.1, pos to x.2))) (oTh (fun x => x.2 <:+ W)) (F.i49 s L (pos to a2) to) (C.c49 a2)
 c50 : ∀ (a2 : (List Tkn)), a2 <:+ W → SimN (Option.map (fun x => (x.1, pos to x.2))) (oTh (fun x => x.2 <:+ W)) (F.i50 s L (pos to a2) to) (C.c50 a2)
 c51 : ∀ (a2 : (List Tkn)), a2 <:+ W → SimN (Option.map (fun x => (x.1, pos to x.2))) (oTh (fun x => x.2 <:+ W)) (F.i51 s L (pos to a2) to) (C.c51 a2)
 c52 : ∀ (a2 : (List Tkn)), a2 <:+ W → SimN (Option.map (fun x => (x.1, pos to x.2))) (oTh (fun x => x.2 <:+ W)) (F.i52 s L (pos to a2) to) (C.c52 a2)
def qOw (k : Nat) (F : Cns) (a0 : Int) (a3 : (List Tkn)) (ih : Int → (List Tkn) → S28 → Option (Option (S28 × (List Tkn)))) : Int → (List Tkn) → S28 → Option (Option (S28 × (List Tkn))) :=
 fun (y9_0 : Int) (y9_1 : (List Tkn)) (y9_2 : S28) => jn (fun (z11 : (List Tkn) × S28) => some (some (z11.2, z11.1))) (fun j11 => if (decide (a0 ≤ 9)) then ((c9 k y9_1).bind fun x3_1 => (g50 k x3_1.f1).bind fun x4_2 => (c10 k x3_1.f1 y9_1).bind fun x5_3 => jn (fun (z10 : Bool × (List Tkn) × S28) => if z10.1 then (j11 (z10.2.1, z10.2.2)) else (bT (c11 k z10.2.1) fun x6_1 => (g54 k x3_1.f1).bind fun x7_6 => bT (F.c5 x7_6 x6_1) fun x7_7 => ih x4_2 x7_7.2 (⟨14, x3_1.f1, (⟨(([z10.2.2, x7_7.1] : List S28)).length, (([z10.2.2, x7_7.1] : List S28)).flatMap e29⟩ : Raw), false, false, ([] : List (List Nat)), ([] : List (List Nat))⟩ : S28))) (fun j10 => if (!x5_3) then (j10 (true, y9_1, y9_2)) else (if (decide (x4_2 < maxI a0 1)) then (j10 (true, y9_1, y9_2)) else ((g52 k x3_1.f1).bind fun x5_15 => j10 (decide (y9_0 < x5_15), y9_1, y9_2))))) else (j11 (y9_1, y9_2)))
def c5_l9 (k : Nat) (F : Cns) (a0 : Int) (a3 : (List Tkn)) (n : Nat) : Int → (List Tkn) → S28 → Option (Option (S28 × (List Tkn))) := lp (fun _ _ _ => none) (qOw k F a0 a3) n
def c5B (k : Nat) (F : Cns) (a0 : Int) (a3 : (List Tkn)) : Option (Option (S28 × (List Tkn))) :=
 jn (fun (z8 : Bool × (List Tkn)) => if z8.1 then (bT (F.c5 (0 : Int) z8.2) fun x1_1 => some (some ((⟨(13 : Int), ([99, 97, 116, 99, 104] : List Nat), ⟨(([x1_1.1] : List S28)).length, (([x1_1.1] : List S28)).flatMap e29⟩, false, false, ([] : List (List Nat)), ([] : List (List Nat))⟩ : S28), x1_1.2))) else (bT (F.c8 z8.2) fun x2_1 => c5_l9 k F a0 a3 k x2_1.2.1 x2_1.2.2 x2_1.1)) (fun j8 => if (decide (a0 ≤ 0)) then (bT (c7 k ([99, 97, 116, 99, 104] : List Nat) a3) fun x0_4 => j8 (x0_4.1, x0_4.2)) else (j8 (false, a3)))
def qEa (k : Nat) (F : Cns)  (ih : (List Tkn) → (List S28) → Option (Option (S28 × (List Tkn)))) : (List Tkn) → (List S28) → Option (Option (S28 × (List Tkn))) :=
 fun (y5_0 : (List Tkn)) (y5_1 : (List S28)) => jn (fun (z6 : Bool × (List Tkn) × (List S28)) => (c12 k z6.2.1).bind fun x1_1 => bT (F.c5 (0 : Int) x1_1.2) fun x2_1 => (appS 104 z6.2.2 ([(⟨x2_1.1.f0, x2_1.1.f1, x2_1.1.f2, x2_1.1.f3, z6.1, x1_1.1, x2_1.1.f6⟩ : S28)] : List S28)).bind fun x3_4 => bT (c7 k ([44] : List Nat) x2_1.2) fun x4_1 => if x4_1.1 then (ih x4_1.2 x3_4) else (some (some ((⟨(25 : Int), ([] : List Nat), ⟨(x3_4).length, (x3_4).flatMap e29⟩, false, false, ([] : List (List Nat)), ([] : List (List Nat))⟩ : S28), x4_1.2)))) (fun j6 => if (decide (0 < (y5_1.length : Int))) then ((cBlank y5_0).bind fun x0_17 => j6 (x0_17, y5_0, y5_1)) else (j6 (false, y5_0, y5_1)))
def qLk (k : Nat) (F : Cns)  (n : Nat) : (List Tkn) → (List S28) → Option (Option (S28 × (List Tkn))) := lp (fun _ _ => none) (qEa k F ) n
def c6B (k : Nat) (F : Cns) (a2 : (List Tkn)) : Option (Option (S28 × (List Tkn))) :=
 qLk k F  k a2 ([] : List S28)
def c8B (k : Nat) (F : Cns) (a2 : (List Tkn)) : Option (Option (S28 × Int × (List Tkn))) :=
 (c9 k a2).bind fun x0_1 => (c10 k x0_1.f1 a2).bind fun x1_3 => jn (fun (z7 : Bool) => if z7 then (bT (c11 k a2) fun x2_1 => bT (F.c8 x2_1) fun x3_1 => (g65 k x0_1.f1).bind fun x4_7 => some (some ((⟨(13 : Int), x0_1.f1, ⟨(([x3_1.1] : List S28)).length, (([x3_1.1] : List S28)).flatMap e29⟩, false, false, ([] : List (List Nat)), ([] : List (List Nat))⟩ : S28), x4_7, x3_1.2.2))) else (bT (F.c13 a2) fun x5_1 => bT (F.c14 x5_1.1 x5_1.2.1 x5_1.2.2) fun x6_3 => some (some (x6_3.1, (11 : Int), x6_3.2)))) (fun j7 => if x1_3 then ((g65 k x0_1.f1).bind fun x1_7 => j7 (decide (0 < x1_7))) else (j7 false))
def c13B (k : Nat) (F : Cns) (a2 : (List Tkn)) : Option (Option (S28 × Bool × (List Tkn))) :=
 (c9 k a2).bind fun x0_1 => (g75 k x0_1.f0).bind fun x1_2 => if x1_2 then (bT (c11 k a2) fun x2_1 => some (some ((⟨(1 : Int), x0_1.f1, ⟨0, []⟩, false, false, ([] : List (List Nat)), ([] : List (List Nat))⟩ : S28), false, x2_1))) else (bT (c7 k ([40] : List Nat) a2) fun x3_1 => if x3_1.1 then (bT (F.c17 x3_1.2) fun x4_1 => some (some (x4_1.1, true, x4_1.2))) else (bT (c7 k ([123] : List Nat) x3_1.2) fun x5_1 => if x5_1.1 then (bT (F.c18 (4 : Int) ([] : List Nat) false false ([] : List (List Nat)) ([] : List (List Nat)) ([125] : List Nat) x5_1.2 ([] : List S28)) fun x6_4 => some (some ((⟨x6_4.1, x6_4.2.1, ⟨(x6_4.2.2.2.2.2.2.2).length, (x6_4.2.2.2.2.2.2.2).flatMap e29⟩, x6_4.2.2.1, x6_4.2.2.2.1, x6_4.2.2.2.2.1, x6_4.2.2.2.2.2.1⟩ : S28), false, x6_4.2.2.2.2.2.2.1))) else (bT (c7 k ([91] : List Nat) x5_1.2) fun x7_1 => if x7_1.1 then (bT (F.c19 x7_1.2) fun x8_1 => some (some (x8_1.1, false, x8_1.2))) else (bT (c7 k ([60, 60] : List Nat) x7_1.2) fun x9_1 => if x9_1.1 then (bT (F.c20 (6 : Int) ([] : List Nat) false false ([] : List (List Nat)) ([] : List (List Nat)) ([62, 62] : List Nat) x9_1.2 ([] : List S28)) fun x10_4 => some (some ((⟨x10_4.1, x10_4.2.1, ⟨(x10_4.2.2.2.2.2.2.2).length, (x10_4.2.2.2.2.2.2.2).flatMap e29⟩, x10_4.2.2.1, x10_4.2.2.2.1, x10_4.2.2.2.2.1, x10_4.2.2.2.2.2.1⟩ : S28), false, x10_4.2.2.2.2.2.2.1))) else (bT (c7 k ([35] : List Nat) x9_1.2) fun x11_1 => if x11_1.1 then (bT (c7 k ([123] : List Nat) x11_1.2) fun x12_1 => if x12_1.1 then (bT (F.c21 (8 : Int) ([] : List Nat) false false ([] : List (List Nat)) ([] : List (List Nat)) ([125] : List Nat) x12_1.2 ([] : List S28)) fun x13_4 => some (some ((⟨x13_4.1, x13_4.2.1, ⟨(x13_4.2.2.2.2.2.2.2).length, (x13_4.2.2.2.2.2.2.2).flatMap e29⟩, x13_4.2.2.1, x13_4.2.2.2.1, x13_4.2.2.2.2.1, x13_4.2.2.2.2.2.1⟩ : S28), false, x13_4.2.2.2.2.2.2.1))) else (bT (c22 k x12_1.2) fun x14_1 => bT (c23 k ([123] : List Nat) x14_1.2) fun x15_1 => bT (F.c18 (10 : Int) x14_1.1 false false ([] : List (List Nat)) ([] : List (List Nat)) ([125] : List Nat) x15_1 ([] : List S28)) fun x16_5 => some (some ((⟨x16_5.1, x16_5.2.1, ⟨(x16_5.2.2.2.2.2.2.2).length, (x16_5.2.2.2.2.2.2.2).flatMap e29⟩, x16_5.2.2.1, x16_5.2.2.2.1, x16_5.2.2.2.2.1, x16_5.2.2.2.2.2.1⟩ : S28), false, x16_5.2.2.2.2.2.2.1)))) else (bT (F.c24 x11_1.2) fun x17_1 => some (some (x17_1.1, false, x17_1.2))))))))
def qJ (k : Nat) (F : Cns) (a4 : (List Tkn)) (ih : Bool → (List Tkn) → S28 → Option (Option (S28 × (List Tkn)))) : Bool → (List Tkn) → S28 → Option (Option (S28 × (List Tkn))) :=
 fun (y7_0 : Bool) (y7_1 : (List Tkn)) (y7_2 : S28) => jn (fun (z8 : Bool × Bool × (List Tkn) × S28) => if z8.1 then (some (some (z8.2.2.2, z8.2.2.1))) else (bT (c7 k ([40] : List Nat) z8.2.2.1) fun x1_1 => jn (fun (z9 : (List Tkn) × S28) => ih false z9.1 z9.2) (fun j9 => if x1_1.1 then (bT (F.c18 (2 : Int) ([] : List Nat) false false ([] : List (List Nat)) ([] : List (List Nat)) ([41] : List Nat) x1_1.2 ([z8.2.2.2] : List S28)) fun x2_6 => j9 (x2_6.2.2.2.2.2.2.1, (⟨x2_6.1, x2_6.2.1, (⟨(x2_6.2.2.2.2.2.2.2).length, (x2_6.2.2.2.2.2.2.2).flatMap e29⟩ : Raw), x2_6.2.2.1, x2_6.2.2.2.1, x2_6.2.2.2.2.1, x2_6.2.2.2.2.2.1⟩ : S28))) else (jn (fun (z10 : Bool × (List Tkn) × S28) => if z10.1 then (bT (F.c25 z10.2.1) fun x4_2 => j9 (x4_2.2, (⟨3, ([] : List Nat), (⟨(([z10.2.2, x4_2.1] : List S28)).length, (([z10.2.2, x4_2.1] : List S28)).flatMap e29⟩ : Raw), false, false, ([] : List (List Nat)), ([] : List (List Nat))⟩ : S28))) else (bT (c7 k ([35] : List Nat) z10.2.1) fun x5_1 => if x5_1.1 then (bT (F.c26 z10.2.2 x5_1.2) fun x6_2 => j9 (x6_2.2, x6_2.1)) else (some (some (z10.2.2, x5_1.2))))) (fun j10 => if (!decide (z8.2.2.2.f0 = 3)) then (if z8.2.1 then (bT (c7 k ([58] : List Nat) x1_1.2) fun x3_13 => j10 (x3_13.1, x3_13.2, z8.2.2.2)) else (if (decide (z8.2.2.2.f0 = 1)) then (bT (c7 k ([58] : List Nat) x1_1.2) fun x3_13 => j10 (x3_13.1, x3_13.2, z8.2.2.2)) else (j10 (false, x1_1.2, z8.2.2.2)))) else (j10 (false, x1_1.2, z8.2.2.2))))))) (fun j8 => if (!y7_0) then ((g85 k y7_2).bind fun x0_4 => j8 (!x0_4, y7_0, y7_1, y7_2)) else (j8 (false, y7_0, y7_1, y7_2)))
def qOy (k : Nat) (F : Cns) (a4 : (List Tkn)) (n : Nat) : Bool → (List Tkn) → S28 → Option (Option (S28 × (List Tkn))) := lp (fun _ _ _ => none) (qJ k F a4) n
def c14B (k : Nat) (F : Cns) (a0 : S28) (a1 : Bool) (a4 : (List Tkn)) : Option (Option (S28 × (List Tkn))) :=
 qOy k F a4 k a1 a4 a0
def c17B (k : Nat) (F : Cns) (a2 : (List Tkn)) : Option (Option (S28 × (List Tkn))) := none
def qG6 (k : Nat) (F : Cns) (a0 : Int) (a1 : (List Nat)) (a3 : Bool) (a4 : (List (List Nat))) (a5 : (List (List Nat))) (a6 : (List Nat)) (x0_1 : Bool) (ih : (List (List Nat)) → (List Tkn) → (List S28) → Option (Option (Int × (List Nat) × Bool × Bool × (List (List Nat)) × (List (List Nat)) × (List Tkn) × (List S28)))) : (List (List Nat)) → (List Tkn) → (List S28) → Option (Option (Int × (List Nat) × Bool × Bool × (List (List Nat)) × (List (List Nat)) × (List Tkn) × (List S28))) :=
 fun (y10_0 : (List (List Nat))) (y10_1 : (List Tkn)) (y10_2 : (List S28)) => bT (F.c29 y10_1) fun x3_1 => (appS 104 y10_2 ([(⟨x3_1.1.f0, x3_1.1.f1, x3_1.1.f2, x3_1.1.f3, x3_1.1.f4, y10_0, x3_1.1.f6⟩ : S28)] : List S28)).bind fun x4_4 => (c12 k x3_1.2).bind fun x5_1 => bT (c7 k a6 x5_1.2) fun x6_2 => if x6_2.1 then (some (some (a0, a1, x0_1, a3, a4, x5_1.1, x6_2.2, x4_4))) else (bT (i16 k (decide ((x5_1.1.length : Int) = 0))) fun x7_3 => bT (c23 k ([44] : List Nat) x6_2.2) fun x8_1 => (c12 k x8_1).bind fun x9_1 => ih x9_1.1 x9_1.2 x4_4)
def qIz (k : Nat) (F : Cns) (a0 : Int) (a1 : (List Nat)) (a3 : Bool) (a4 : (List (List Nat))) (a5 : (List (List Nat))) (a6 : (List Nat)) (x0_1 : Bool) (n : Nat) : (List (List Nat)) → (List Tkn) → (List S28) → Option (Option (Int × (List Nat) × Bool × Bool × (List (List Nat)) × (List (List Nat)) × (List Tkn) × (List S28))) := lp (fun _ _ _ => none) (qG6 k F a0 a1 a3 a4 a5 a6 x0_1) n
def c18B (k : Nat) (F : Cns) (a0 : Int) (a1 : (List Nat)) (a2 : Bool) (a3 : Bool) (a4 : (List (List Nat))) (a5 : (List (List Nat))) (a6 : (List Nat)) (a9 : (List Tkn)) (b1 : (List S28)) : Option (Option (Int × (List Nat) × Bool × Bool × (List (List Nat)) × (List (List Nat)) × (List Tkn) × (List S28))) :=
 (c28 k a9).bind fun x0_1 => (c12 k a9).bind fun x1_1 => bT (c7 k a6 x1_1.2) fun x2_2 => if x2_2.1 then (some (some (a0, a1, x0_1, a3, a4, x1_1.1, x2_2.2, b1))) else (qIz k F a0 a1 a3 a4 a5 a6  x0_1 k x1_1.1 x2_2.2 b1)
def c19B (k : Nat) (F : Cns) (a2 : (List Tkn)) : Option (Option (S28 × (List Tkn))) := none
def c20B (k : Nat) (F : Cns) (a0 : Int) (a1 : (List Nat)) (a2 : Bool) (a3 : Bool) (a4 : (List (List Nat))) (a5 : (List (List Nat))) (a6 : (List Nat)) (a9 : (List Tkn)) (b1 : (List S28)) : Option (Option (Int × (List Nat) × Bool × Bool × (List (List Nat)) × (List (List Nat)) × (List Tkn) × (List S28))) := none
def c21B (k : Nat) (F : Cns) (a0 : Int) (a1 : (List Nat)) (a2 : Bool) (a3 : Bool) (a4 : (List (List Nat))) (a5 : (List (List Nat))) (a6 : (List Nat)) (a9 : (List Tkn)) (b1 : (List S28)) : Option (Option (Int × (List Nat) × Bool × Bool × (List (List Nat)) × (List (List Nat)) × (List Tkn) × (List S28))) := none
def c24B (k : Nat) (F : Cns) (a2 : (List Tkn)) : Option (Option (S28 × (List Tkn))) := none
def c25B (k : Nat) (F : Cns) (a2 : (List Tkn)) : Option (Option (S28 × (List Tkn))) := none
def c26B (k : Nat) (F : Cns) (a0 : S28) (a3 : (List Tkn)) : Option (Option (S28 × (List Tkn))) := none
def c29B (k : Nat) (F : Cns) (a2 : (List Tkn)) : Option (Option (S28 × (List Tkn))) :=
 bT (F.c5 (0 : Int) a2) fun x0_1 => some (some (x0_1.1, x0_1.2))
def c30B (k : Nat) (F : Cns) (a0 : Int) (a1 : (List Nat)) (a2 : Bool) (a3 : Bool) (a4 : (List (List Nat))) (a5 : (List (List Nat))) (a8 : (List Tkn)) (b1 : (List S28)) : Option (Option (Int × (List Nat) × Bool × Bool × (List (List Nat)) × (List (List Nat)) × (List Tkn) × (List S28))) := none
def c31B (k : Nat) (F : Cns) (a2 : (List Tkn)) : Option (Option (S28 × (List Tkn))) := none
def c32B (k : Nat) (F : Cns) (a2 : (List Tkn)) : Option (Option (S28 × (List Tkn))) := none
def c34B (k : Nat) (F : Cns) (a2 : (List Tkn)) : Option (Option (S28 × (List Tkn))) := none
def c36B (k : Nat) (F : Cns) (a0 : Int) (a1 : (List Nat)) (a2 : Bool) (a3 : Bool) (a4 : (List (List Nat))) (a5 : (List (List Nat))) (a8 : (List Tkn)) (b1 : (List S28)) : Option (Option (Int × (List Nat) × Bool × Bool × (List (List Nat)) × (List (List Nat)) × (List Tkn) × (List S28))) := none
def c37B (k : Nat) (F : Cns) (a0 : Int) (a1 : (List Nat)) (a2 : Bool) (a3 : Bool) (a4 : (List (List Nat))) (a5 : (List (List Nat))) (a8 : (List Tkn)) (b1 : (List S28)) : Option (Option (Int × (List Nat) × Bool × Bool × (List (List Nat)) × (List (List Nat)) × (List Tkn) × (List S28))) := none
def c38B (k : Nat) (F : Cns) (a2 : (List Tkn)) : Option (Option (S28 × (List Tkn))) := none
def c40B (k : Nat) (F : Cns) (a0 : (List (List Nat))) (a3 : (List Tkn)) : Option (Option ((List S28) × (List Tkn))) := none
def c41B (k : Nat) (F : Cns) (a0 : (List (List Nat))) (a3 : (List Tkn)) : Option (Option ((List S28) × (List Tkn))) := none
def c42B (k : Nat) (F : Cns) (a0 : (List (List Nat))) (a3 : (List Tkn)) : Option (Option ((List S28) × (List Tkn))) := none
def c43B (k : Nat) (F : Cns) (a0 : (List (List Nat))) (a3 : (List Tkn)) : Option (Option ((List Tkn) × (List S28))) := none
def c44B (k : Nat) (F : Cns) (a2 : (List Tkn)) : Option (Option (S28 × (List Tkn))) := none
def c45B (k : Nat) (F : Cns) (a2 : (List Tkn)) : Option (Option (S28 × (List Tkn))) := none
def c46B (k : Nat) (F : Cns) (a2 : (List Tkn)) : Option (Option (S28 × (List Tkn))) := none
def c47B (k : Nat) (F : Cns) (a0 : (List Nat)) (a1 : S28) (a2 : S28) (a5 : (List Tkn)) : Option (Option (S28 × (List Tkn))) := none
def c48B (k : Nat) (F : Cns) (a0 : (List Nat)) (a3 : (List Tkn)) : Option (Option (S28 × (List Tkn))) := none
def c49B (k : Nat) (F : Cns) (a2 : (List Tkn)) : Option (Option (S28 × (List Tkn))) := none
def c50B (k : Nat) (F : Cns) (a2 : (List Tkn)) : Option (Option (S28 × (List Tkn))) := none
def c51B (k : Nat) (F : Cns) (a2 : (List Tkn)) : Option (Option (S28 × (List Tkn))) := none
def c52B (k : Nat) (F : Cns) (a2 : (List Tkn)) : Option (Option (S28 × (List Tkn))) := none
def cpar (K n : Nat) : Cns := Nat.rec (motive := fun _ => Cns) ⟨fun _ _ => none, fun _ => none, fun _ => none, fun _ => none, fun _ _ _ => none, fun _ => none, fun _ _ _ _ _ _ _ _ _ => none, fun _ => none, fun _ _ _ _ _ _ _ _ _ => none, fun _ _ _ _ _ _ _ _ _ => none, fun _ => none, fun _ => none, fun _ _ => none, fun _ => none, fun _ _ _ _ _ _ _ _ => none, fun _ => none, fun _ => none, fun _ => none, fun _ _ _ _ _ _ _ _ => none, fun _ _ _ _ _ _ _ _ => none, fun _ => none, fun _ _ => none, fun _ _ => none, fun _ _ => none, fun _ _ => none, fun _ => none, fun _ => none, fun _ => none, fun _ _ _ _ => none, fun _ _ => none, fun _ => none, fun _ => none, fun _ => none, fun _ => none⟩ (fun j F => ⟨c5B (K + j) F, c6B (K + j) F, c8B (K + j) F, c13B (K + j) F, c14B (K + j) F, c17B (K + j) F, c18B (K + j) F, c19B (K + j) F, c20B (K + j) F, c21B (K + j) F, c24B (K + j) F, c25B (K + j) F, c26B (K + j) F, c29B (K + j) F, c30B (K + j) F, c31B (K + j) F, c32B (K + j) F, c34B (K + j) F, c36B (K + j) F, c37B (K + j) F, c38B (K + j) F, c40B (K + j) F, c41B (K + j) F, c42B (K + j) F, c43B (K + j) F, c44B (K + j) F, c45B (K + j) F, c46B (K + j) F, c47B (K + j) F, c48B (K + j) F, c49B (K + j) F, c50B (K + j) F, c51B (K + j) F, c52B (K + j) F⟩) n
end
theorem qOv {k : Nat} {s : List Nat} {L : List S33} {to : Int} {W : (List Tkn)} (hv : Vw k s L to W) {F : Fns0} {C : Cns} (hF : SimC s L to W F C)  (a0 : Int) (a3 : (List Tkn)) : ∀ (n : Nat) (y9_0 : Int) (y9_1 : (List Tkn)) (y9_2 : S28), y9_1 <:+ W → SimN (Option.map (fun x => (x.1, pos to x.2))) (oTh (fun x => x.2 <:+ W)) (qN0 k F a0 s L (pos to a3) to n y9_0 (pos to y9_1) y9_2) (c5_l9 k C a0 a3 n y9_0 y9_1 y9_2) := by
 intro n
 induction n with
 | zero => intro y9_0 y9_1 y9_2 _; exact sZ
 | succ n ih =>
  intro y9_0 y9_1 y9_2 hy
  show SimN (Option.map (fun x => (x.1, pos to x.2))) (oTh (fun x => x.2 <:+ W)) (qGz k F a0 s L (pos to a3) to (qN0 k F a0 s L (pos to a3) to n) y9_0 (pos to y9_1) y9_2) (qOw k C a0 a3 (c5_l9 k C a0 a3 n) y9_0 y9_1 y9_2)
  unfold qGz qOw
  exact sJ (α := ((List Tkn) × S28)) (fun x => (pos to x.1, x.2)) (fun x => x.1 <:+ W) (fun z11 hz11 => sR (x := (z11.2, z11.1)) hz11) (fun j11 j11' hj11 => sI (sB (qHb hv y9_1 hy) fun x3_1 hx3_1 => sE fun x4_2 => sB (qJ0 hv x3_1.f1 y9_1 hy) fun x5_3 hx5_3 => sJ (α := (Bool × (List Tkn) × S28)) (fun x => (x.1, pos to x.2.1, x.2.2)) (fun x => x.2.1 <:+ W) (fun z10 hz10 => sI (hj11 (z10.2.1, z10.2.2) hz10) (sT (qEb hv z10.2.1 hz10) fun x6_1 hx6_1 => sE fun x7_6 => sT (hF.c5 x7_6 x6_1 hx6_1) fun x7_7 hx7_7 => ih x4_2 x7_7.2 (⟨14, x3_1.f1, (⟨(([z10.2.2, x7_7.1] : List S28)).length, (([z10.2.2, x7_7.1] : List S28)).flatMap e29⟩ : Raw), false, false, ([] : List (List Nat)), ([] : List (List Nat))⟩ : S28) hx7_7)) (fun j10 j10' hj10 => sI (hj10 (true, y9_1, y9_2) hy) (sI (hj10 (true, y9_1, y9_2) hy) (sE fun x5_15 => hj10 (decide (y9_0 < x5_15), y9_1, y9_2) hy)))) (hj11 (y9_1, y9_2) hy))
theorem c5B_sim {k : Nat} {s : List Nat} {L : List S33} {to : Int} {W : (List Tkn)} (hv : Vw k s L to W) {F : Fns0} {C : Cns} (hF : SimC s L to W F C) (a0 : Int) (a3 : (List Tkn)) (h : a3 <:+ W) : SimN (Option.map (fun x => (x.1, pos to x.2))) (oTh (fun x => x.2 <:+ W)) (i5B k F a0 s L (pos to a3) to) (c5B k C a0 a3) := by
 unfold i5B c5B
 exact sJ (α := (Bool × (List Tkn))) (fun x => (x.1, pos to x.2)) (fun x => x.2 <:+ W) (fun z8 hz8 => sI (sT (hF.c5 (0 : Int) z8.2 hz8) fun x1_1 hx1_1 => sR (x := ((⟨(13 : Int), ([99, 97, 116, 99, 104] : List Nat), ⟨(([x1_1.1] : List S28)).length, (([x1_1.1] : List S28)).flatMap e29⟩, false, false, ([] : List (List Nat)), ([] : List (List Nat))⟩ : S28), x1_1.2)) hx1_1) (sT (hF.c8 z8.2 hz8) fun x2_1 hx2_1 => qOv hv hF a0 a3 k x2_1.2.1 x2_1.2.2 x2_1.1 hx2_1)) (fun j8 j8' hj8 => sI (sT (qBi hv ([99, 97, 116, 99, 104] : List Nat) a3 h) fun x0_4 hx0_4 => hj8 (x0_4.1, x0_4.2) hx0_4) (hj8 (false, a3) h))
theorem qOu {k : Nat} {s : List Nat} {L : List S33} {to : Int} {W : (List Tkn)} (hv : Vw k s L to W) {F : Fns0} {C : Cns} (hF : SimC s L to W F C)   : ∀ (n : Nat) (y5_0 : (List Tkn)) (y5_1 : (List S28)), y5_0 <:+ W → SimN (Option.map (fun x => (x.1, pos to x.2))) (oTh (fun x => x.2 <:+ W)) (qMz k F s L to n (pos to y5_0) y5_1) (qLk k C  n y5_0 y5_1) := by
 intro n
 induction n with
 | zero => intro y5_0 y5_1 _; exact sZ
 | succ n ih =>
  intro y5_0 y5_1 hy
  show SimN (Option.map (fun x => (x.1, pos to x.2))) (oTh (fun x => x.2 <:+ W)) (qGy k F s L to (qMz k F s L to n) (pos to y5_0) y5_1) (qEa k C  (qLk k C  n) y5_0 y5_1)
  unfold qGy qEa
  exact sJ (α := (Bool × (List Tkn) × (List S28))) (fun x => (x.1, pos to x.2.1, x.2.2)) (fun x => x.2.1 <:+ W) (fun z6 hz6 => sB (qG7 hv z6.2.1 hz6) fun x1_1 hx1_1 => sT (hF.c5 (0 : Int) x1_1.2 hx1_1) fun x2_1 hx2_1 => sE fun x3_4 => sT (qBi hv ([44] : List Nat) x2_1.2 hx2_1) fun x4_1 hx4_1 => sI (ih x4_1.2 x3_4 hx4_1) (sR (x := ((⟨(25 : Int), ([] : List Nat), ⟨(x3_4).length, (x3_4).flatMap e29⟩, false, false, ([] : List (List Nat)), ([] : List (List Nat))⟩ : S28), x4_1.2)) hx4_1)) (fun j6 j6' hj6 => sI (sB (qP0 hv hy) fun x0_17 hx0_17 => hj6 (x0_17, y5_0, y5_1) hy) (hj6 (false, y5_0, y5_1) hy))
theorem c6B_sim {k : Nat} {s : List Nat} {L : List S33} {to : Int} {W : (List Tkn)} (hv : Vw k s L to W) {F : Fns0} {C : Cns} (hF : SimC s L to W F C) (a2 : (List Tkn)) (h : a2 <:+ W) : SimN (Option.map (fun x => (x.1, pos to x.2))) (oTh (fun x => x.2 <:+ W)) (i6B k F s L (pos to a2) to) (c6B k C a2) := by
 unfold i6B c6B
 exact qOu hv hF  k a2 ([] : List S28) h
theorem c8B_sim {k : Nat} {s : List Nat} {L : List S33} {to : Int} {W : (List Tkn)} (hv : Vw k s L to W) {F : Fns0} {C : Cns} (hF : SimC s L to W F C) (a2 : (List Tkn)) (h : a2 <:+ W) : SimN (Option.map (fun x => (x.1, x.2.1, pos to x.2.2))) (oTh (fun x => x.2.2 <:+ W)) (i8B k F s L (pos to a2) to) (c8B k C a2) := by
 unfold i8B c8B
 exact sB (qHb hv a2 h) fun x0_1 hx0_1 => sB (qJ0 hv x0_1.f1 a2 h) fun x1_3 hx1_3 => sJ (α := Bool) (fun x => x) (fun _ => True) (fun z7 hz7 => sI (sT (qEb hv a2 h) fun x2_1 hx2_1 => sT (hF.c8 x2_1 hx2_1) fun x3_1 hx3_1 => sE fun x4_7 => sR (x := ((⟨(13 : Int), x0_1.f1, ⟨(([x3_1.1] : List S28)).length, (([x3_1.1] : List S28)).flatMap e29⟩, false, false, ([] : List (List Nat)), ([] : List (List Nat))⟩ : S28), x4_7, x3_1.2.2)) hx3_1) (sT (hF.c13 a2 h) fun x5_1 hx5_1 => sT (hF.c14 x5_1.1 x5_1.2.1 x5_1.2.2 hx5_1) fun x6_3 hx6_3 => sR (x := (x6_3.1, (11 : Int), x6_3.2)) hx6_3)) (fun j7 j7' hj7 => sI (sE fun x1_7 => hj7 (decide (0 < x1_7)) trivial) (hj7 false trivial))
theorem c13B_sim {k : Nat} {s : List Nat} {L : List S33} {to : Int} {W : (List Tkn)} (hv : Vw k s L to W) {F : Fns0} {C : Cns} (hF : SimC s L to W F C) (a2 : (List Tkn)) (h : a2 <:+ W) : SimN (Option.map (fun x => (x.1, x.2.1, pos to x.2.2))) (oTh (fun x => x.2.2 <:+ W)) (i13B k F s L (pos to a2) to) (c13B k C a2) := by
 unfold i13B c13B
 exact sB (qHb hv a2 h) fun x0_1 hx0_1 => sE fun x1_2 => sI (sT (qEb hv a2 h) fun x2_1 hx2_1 => sR (x := ((⟨(1 : Int), x0_1.f1, ⟨0, []⟩, false, false, ([] : List (List Nat)), ([] : List (List Nat))⟩ : S28), false, x2_1)) hx2_1) (sT (qBi hv ([40] : List Nat) a2 h) fun x3_1 hx3_1 => sI (sT (hF.c17 x3_1.2 hx3_1) fun x4_1 hx4_1 => sR (x := (x4_1.1, true, x4_1.2)) hx4_1) (sT (qBi hv ([123] : List Nat) x3_1.2 hx3_1) fun x5_1 hx5_1 => sI (sT (hF.c18 (4 : Int) ([] : List Nat) false false ([] : List (List Nat)) ([] : List (List Nat)) ([125] : List Nat) x5_1.2 ([] : List S28) hx5_1) fun x6_4 hx6_4 => sR (x := ((⟨x6_4.1, x6_4.2.1, ⟨(x6_4.2.2.2.2.2.2.2).length, (x6_4.2.2.2.2.2.2.2).flatMap e29⟩, x6_4.2.2.1, x6_4.2.2.2.1, x6_4.2.2.2.2.1, x6_4.2.2.2.2.2.1⟩ : S28), false, x6_4.2.2.2.2.2.2.1)) hx6_4) (sT (qBi hv ([91] : List Nat) x5_1.2 hx5_1) fun x7_1 hx7_1 => sI (sT (hF.c19 x7_1.2 hx7_1) fun x8_1 hx8_1 => sR (x := (x8_1.1, false, x8_1.2)) hx8_1) (sT (qBi hv ([60, 60] : List Nat) x7_1.2 hx7_1) fun x9_1 hx9_1 => sI (sT (hF.c20 (6 : Int) ([] : List Nat) false false ([] : List (List Nat)) ([] : List (List Nat)) ([62, 62] : List Nat) x9_1.2 ([] : List S28) hx9_1) fun x10_4 hx10_4 => sR (x := ((⟨x10_4.1, x10_4.2.1, ⟨(x10_4.2.2.2.2.2.2.2).length, (x10_4.2.2.2.2.2.2.2).flatMap e29⟩, x10_4.2.2.1, x10_4.2.2.2.1, x10_4.2.2.2.2.1, x10_4.2.2.2.2.2.1⟩ : S28), false, x10_4.2.2.2.2.2.2.1)) hx10_4) (sT (qBi hv ([35] : List Nat) x9_1.2 hx9_1) fun x11_1 hx11_1 => sI (sT (qBi hv ([123] : List Nat) x11_1.2 hx11_1) fun x12_1 hx12_1 => sI (sT (hF.c21 (8 : Int) ([] : List Nat) false false ([] : List (List Nat)) ([] : List (List Nat)) ([125] : List Nat) x12_1.2 ([] : List S28) hx12_1) fun x13_4 hx13_4 => sR (x := ((⟨x13_4.1, x13_4.2.1, ⟨(x13_4.2.2.2.2.2.2.2).length, (x13_4.2.2.2.2.2.2.2).flatMap e29⟩, x13_4.2.2.1, x13_4.2.2.2.1, x13_4.2.2.2.2.1, x13_4.2.2.2.2.2.1⟩ : S28), false, x13_4.2.2.2.2.2.2.1)) hx13_4) (sT (c22_sim hv x12_1.2 hx12_1) fun x14_1 hx14_1 => sT (qOx hv ([123] : List Nat) x14_1.2 hx14_1) fun x15_1 hx15_1 => sT (hF.c18 (10 : Int) x14_1.1 false false ([] : List (List Nat)) ([] : List (List Nat)) ([125] : List Nat) x15_1 ([] : List S28) hx15_1) fun x16_5 hx16_5 => sR (x := ((⟨x16_5.1, x16_5.2.1, ⟨(x16_5.2.2.2.2.2.2.2).length, (x16_5.2.2.2.2.2.2.2).flatMap e29⟩, x16_5.2.2.1, x16_5.2.2.2.1, x16_5.2.2.2.2.1, x16_5.2.2.2.2.2.1⟩ : S28), false, x16_5.2.2.2.2.2.2.1)) hx16_5)) (sT (hF.c24 x11_1.2 hx11_1) fun x17_1 hx17_1 => sR (x := (x17_1.1, false, x17_1.2)) hx17_1))))))
theorem qLl {k : Nat} {s : List Nat} {L : List S33} {to : Int} {W : (List Tkn)} (hv : Vw k s L to W) {F : Fns0} {C : Cns} (hF : SimC s L to W F C)  (a4 : (List Tkn)) : ∀ (n : Nat) (y7_0 : Bool) (y7_1 : (List Tkn)) (y7_2 : S28), y7_1 <:+ W → SimN (Option.map (fun x => (x.1, pos to x.2))) (oTh (fun x => x.2 <:+ W)) (qH1 k F s L (pos to a4) to n y7_0 (pos to y7_1) y7_2) (qOy k C a4 n y7_0 y7_1 y7_2) := by
 intro n
 induction n with
 | zero => intro y7_0 y7_1 y7_2 _; exact sZ
 | succ n ih =>
  intro y7_0 y7_1 y7_2 hy
  show SimN (Option.map (fun x => (x.1, pos to x.2))) (oTh (fun x => x.2 <:+ W)) (qE5 k F s L (pos to a4) to (qH1 k F s L (pos to a4) to n) y7_0 (pos to y7_1) y7_2) (qJ k C a4 (qOy k C a4 n) y7_0 y7_1 y7_2)
  unfold qE5 qJ
  exact sJ (α := (Bool × Bool × (List Tkn) × S28)) (fun x => (x.1, x.2.1, pos to x.2.2.1, x.2.2.2)) (fun x => x.2.2.1 <:+ W) (fun z8 hz8 => sI (sR (x := (z8.2.2.2, z8.2.2.1)) hz8) (sT (qBi hv ([40] : List Nat) z8.2.2.1 hz8) fun x1_1 hx1_1 => sJ (α := ((List Tkn) × S28)) (fun x => (pos to x.1, x.2)) (fun x => x.1 <:+ W) (fun z9 hz9 => ih false z9.1 z9.2 hz9) (fun j9 j9' hj9 => sI (sT (hF.c18 (2 : Int) ([] : List Nat) false false ([] : List (List Nat)) ([] : List (List Nat)) ([41] : List Nat) x1_1.2 ([z8.2.2.2] : List S28) hx1_1) fun x2_6 hx2_6 => hj9 (x2_6.2.2.2.2.2.2.1, (⟨x2_6.1, x2_6.2.1, (⟨(x2_6.2.2.2.2.2.2.2).length, (x2_6.2.2.2.2.2.2.2).flatMap e29⟩ : Raw), x2_6.2.2.1, x2_6.2.2.2.1, x2_6.2.2.2.2.1, x2_6.2.2.2.2.2.1⟩ : S28)) hx2_6) (sJ (α := (Bool × (List Tkn) × S28)) (fun x => (x.1, pos to x.2.1, x.2.2)) (fun x => x.2.1 <:+ W) (fun z10 hz10 => sI (sT (hF.c25 z10.2.1 hz10) fun x4_2 hx4_2 => hj9 (x4_2.2, (⟨3, ([] : List Nat), (⟨(([z10.2.2, x4_2.1] : List S28)).length, (([z10.2.2, x4_2.1] : List S28)).flatMap e29⟩ : Raw), false, false, ([] : List (List Nat)), ([] : List (List Nat))⟩ : S28)) hx4_2) (sT (qBi hv ([35] : List Nat) z10.2.1 hz10) fun x5_1 hx5_1 => sI (sT (hF.c26 z10.2.2 x5_1.2 hx5_1) fun x6_2 hx6_2 => hj9 (x6_2.2, x6_2.1) hx6_2) (sR (x := (z10.2.2, x5_1.2)) hx5_1))) (fun j10 j10' hj10 => sI (sI (sT (qBi hv ([58] : List Nat) x1_1.2 hx1_1) fun x3_13 hx3_13 => hj10 (x3_13.1, x3_13.2, z8.2.2.2) hx3_13) (sI (sT (qBi hv ([58] : List Nat) x1_1.2 hx1_1) fun x3_13 hx3_13 => hj10 (x3_13.1, x3_13.2, z8.2.2.2) hx3_13) (hj10 (false, x1_1.2, z8.2.2.2) hx1_1))) (hj10 (false, x1_1.2, z8.2.2.2) hx1_1)))))) (fun j8 j8' hj8 => sI (sE fun x0_4 => hj8 (!x0_4, y7_0, y7_1, y7_2) hy) (hj8 (false, y7_0, y7_1, y7_2) hy))
theorem c14B_sim {k : Nat} {s : List Nat} {L : List S33} {to : Int} {W : (List Tkn)} (hv : Vw k s L to W) {F : Fns0} {C : Cns} (hF : SimC s L to W F C) (a0 : S28) (a1 : Bool) (a4 : (List Tkn)) (h : a4 <:+ W) : SimN (Option.map (fun x => (x.1, pos to x.2))) (oTh (fun x => x.2 <:+ W)) (i14B k F a0 a1 s L (pos to a4) to) (c14B k C a0 a1 a4) := by
 unfold i14B c14B
 exact qLl hv hF a4 k a1 a4 a0 h
theorem qIy {k : Nat} {s : List Nat} {L : List S33} {to : Int} {W : (List Tkn)} (hv : Vw k s L to W) {F : Fns0} {C : Cns} (hF : SimC s L to W F C)  (a0 : Int) (a1 : (List Nat)) (a3 : Bool) (a4 : (List (List Nat))) (a5 : (List (List Nat))) (a6 : (List Nat)) (x0_1 : Bool) : ∀ (n : Nat) (y10_0 : (List (List Nat))) (y10_1 : (List Tkn)) (y10_2 : (List S28)), y10_1 <:+ W → SimN (Option.map (fun x => (x.1, x.2.1, x.2.2.1, x.2.2.2.1, x.2.2.2.2.1, x.2.2.2.2.2.1, pos to x.2.2.2.2.2.2.1, x.2.2.2.2.2.2.2))) (oTh (fun x => x.2.2.2.2.2.2.1 <:+ W)) (qE4 k F a0 a1 a3 a4 a5 a6 s L to x0_1 n y10_0 (pos to y10_1) y10_2) (qIz k C a0 a1 a3 a4 a5 a6 x0_1 n y10_0 y10_1 y10_2) := by
 intro n
 induction n with
 | zero => intro y10_0 y10_1 y10_2 _; exact sZ
 | succ n ih =>
  intro y10_0 y10_1 y10_2 hy
  show SimN (Option.map (fun x => (x.1, x.2.1, x.2.2.1, x.2.2.2.1, x.2.2.2.2.1, x.2.2.2.2.2.1, pos to x.2.2.2.2.2.2.1, x.2.2.2.2.2.2.2))) (oTh (fun x => x.2.2.2.2.2.2.1 <:+ W)) (qCx k F a0 a1 a3 a4 a5 a6 s L to x0_1 (qE4 k F a0 a1 a3 a4 a5 a6 s L to x0_1 n) y10_0 (pos to y10_1) y10_2) (qG6 k C a0 a1 a3 a4 a5 a6 x0_1 (qIz k C a0 a1 a3 a4 a5 a6 x0_1 n) y10_0 y10_1 y10_2)
  unfold qCx qG6
  exact sT (hF.c29 y10_1 hy) fun x3_1 hx3_1 => sE fun x4_4 => sB (qG7 hv x3_1.2 hx3_1) fun x5_1 hx5_1 => sT (qBi hv a6 x5_1.2 hx5_1) fun x6_2 hx6_2 => sI (sR (x := (a0, a1, x0_1, a3, a4, x5_1.1, x6_2.2, x4_4)) hx6_2) (sTE fun x7_3 => sT (qOx hv ([44] : List Nat) x6_2.2 hx6_2) fun x8_1 hx8_1 => sB (qG7 hv x8_1 hx8_1) fun x9_1 hx9_1 => ih x9_1.1 x9_1.2 x4_4 hx9_1)
theorem c18B_sim {k : Nat} {s : List Nat} {L : List S33} {to : Int} {W : (List Tkn)} (hv : Vw k s L to W) {F : Fns0} {C : Cns} (hF : SimC s L to W F C) (a0 : Int) (a1 : (List Nat)) (a2 : Bool) (a3 : Bool) (a4 : (List (List Nat))) (a5 : (List (List Nat))) (a6 : (List Nat)) (a9 : (List Tkn)) (b1 : (List S28)) (h : a9 <:+ W) : SimN (Option.map (fun x => (x.1, x.2.1, x.2.2.1, x.2.2.2.1, x.2.2.2.2.1, x.2.2.2.2.2.1, pos to x.2.2.2.2.2.2.1, x.2.2.2.2.2.2.2))) (oTh (fun x => x.2.2.2.2.2.2.1 <:+ W)) (i18B k F a0 a1 a2 a3 a4 a5 a6 s L (pos to a9) to b1) (c18B k C a0 a1 a2 a3 a4 a5 a6 a9 b1) := by
 unfold i18B c18B
 exact sB (c28_sim hv a9 h) fun x0_1 hx0_1 => sB (qG7 hv a9 h) fun x1_1 hx1_1 => sT (qBi hv a6 x1_1.2 hx1_1) fun x2_2 hx2_2 => sI (sR (x := (a0, a1, x0_1, a3, a4, x1_1.1, x2_2.2, b1)) hx2_2) (qIy hv hF a0 a1 a3 a4 a5 a6 x0_1 k x1_1.1 x2_2.2 b1 hx2_2)
theorem c29B_sim {k : Nat} {s : List Nat} {L : List S33} {to : Int} {W : (List Tkn)} (hv : Vw k s L to W) {F : Fns0} {C : Cns} (hF : SimC s L to W F C) (a2 : (List Tkn)) (h : a2 <:+ W) : SimN (Option.map (fun x => (x.1, pos to x.2))) (oTh (fun x => x.2 <:+ W)) (i29B k F s L (pos to a2) to) (c29B k C a2) := by
 unfold i29B c29B
 exact sT (hF.c5 (0 : Int) a2 h) fun x0_1 hx0_1 => sR (x := (x0_1.1, x0_1.2)) hx0_1
theorem qC {k : Nat} {s : List Nat} {L : List S33} {to : Int} {W : (List Tkn)} (hv : ∀ j, Vw (k + j) s L to W) : ∀ n, SimC s L to W (par0 (k + n)) (cpar k n)
 | 0 => ⟨(fun _ _ _ => sZ), (fun _ _ => sZ), (fun _ _ => sZ), (fun _ _ => sZ), (fun _ _ _ _ => sZ), (fun _ _ => sZ), (fun _ _ _ _ _ _ _ _ _ _ => sZ), (fun _ _ => sZ), (fun _ _ _ _ _ _ _ _ _ _ => sZ), (fun _ _ _ _ _ _ _ _ _ _ => sZ), (fun _ _ => sZ), (fun _ _ => sZ), (fun _ _ _ => sZ), (fun _ _ => sZ), (fun _ _ _ _ _ _ _ _ _ => sZ), (fun _ _ => sZ), (fun _ _ => sZ), (fun _ _ => sZ), (fun _ _ _ _ _ _ _ _ _ => sZ), (fun _ _ _ _ _ _ _ _ _ => sZ), (fun _ _ => sZ), (fun _ _ _ => sZ), (fun _ _ _ => sZ), (fun _ _ _ => sZ), (fun _ _ _ => sZ), (fun _ _ => sZ), (fun _ _ => sZ), (fun _ _ => sZ), (fun _ _ _ _ _ => sZ), (fun _ _ _ => sZ), (fun _ _ => sZ), (fun _ _ => sZ), (fun _ _ => sZ), (fun _ _ => sZ)⟩
 | n + 1 => ⟨c5B_sim (hv n) (qC hv n), c6B_sim (hv n) (qC hv n), c8B_sim (hv n) (qC hv n), c13B_sim (hv n) (qC hv n), c14B_sim (hv n) (qC hv n), (fun _ _ => sZ), c18B_sim (hv n) (qC hv n), (fun _ _ => sZ), (fun _ _ _ _ _ _ _ _ _ _ => sZ), (fun _ _ _ _ _ _ _ _ _ _ => sZ), (fun _ _ => sZ), (fun _ _ => sZ), (fun _ _ _ => sZ), c29B_sim (hv n) (qC hv n), (fun _ _ _ _ _ _ _ _ _ => sZ), (fun _ _ => sZ), (fun _ _ => sZ), (fun _ _ => sZ), (fun _ _ _ _ _ _ _ _ _ => sZ), (fun _ _ _ _ _ _ _ _ _ => sZ), (fun _ _ => sZ), (fun _ _ _ => sZ), (fun _ _ _ => sZ), (fun _ _ _ => sZ), (fun _ _ _ => sZ), (fun _ _ => sZ), (fun _ _ => sZ), (fun _ _ => sZ), (fun _ _ _ _ _ => sZ), (fun _ _ _ => sZ), (fun _ _ => sZ), (fun _ _ => sZ), (fun _ _ => sZ), (fun _ _ => sZ)⟩
end Go.Proofs.Ythpplbkobokghaa.Am
set_option maxRecDepth 100000
set_option linter.unusedVariables false
namespace Go.Proofs.Ythpplbkobokghaa.Am
noncomputable section
open Go
abbrev Ri4 : Type := (Int × (List Nat) × Raw × Bool × Bool × (List (List Nat)) × (List (List Nat)) × Int)
abbrev Ti4 : Type := Int → (List Nat) → Raw → Bool → Bool → (List (List Nat)) → (List (List Nat)) → (List Nat) → (List S33) → Int → Int → Option (Option Ri4)
def Xi4 (a0 : Int) (a1 : (List Nat)) (a2 : Raw) (a3 : Bool) (a4 : Bool) (a5 : (List (List Nat))) (a6 : (List (List Nat))) (a7 : (List Nat)) (a8 : (List S33)) (a9 : Int) (a10 : Int) : Fx (Option Ri4) := ⟨Try.prog, cx, Try.f34, fun r => match r with | some r => .tuple [] | none => .top, 2, fun r => match r with | some r => (mkH [⟨[.i r.1, .str r.2.1, q29 r.2.2.1, .bool r.2.2.2.1, .bool r.2.2.2.2.1, w9 r.2.2.2.2.2.1, w9 r.2.2.2.2.2.2.1], 7, false⟩, ⟨[.str a7, w34 a8, .i r.2.2.2.2.2.2.2, .i a10], 4, false⟩]) | none => (mkH [⟨[.i a0, .str a1, q29 a2, .bool a3, .bool a4, w9 a5, w9 a6], 7, false⟩, ⟨[.str a7, w34 a8, .i a9, .i a10], 4, false⟩]), cxTi, cxOrd, fun r => match r with | some _ => none | none => some (thrown, [1]), false⟩
def Pi4 (f : Ti4) : Prop := ∀ a0 a1 a2 a3 a4 a5 a6 a7 a8 a9 a10, PQh (Xi4 a0 a1 a2 a3 a4 a5 a6 a7 a8 a9 a10) 34 [.ptr 1 4 0, .ptr 0 7 0] (f a0 a1 a2 a3 a4 a5 a6 a7 a8 a9 a10)
def i4p0 : Pt := nav [] (bodyAt Try.f34)
def i4 (k : Nat) (a0 : Int) (a1 : (List Nat)) (a2 : Raw) (a3 : Bool) (a4 : Bool) (a5 : (List (List Nat))) (a6 : (List (List Nat))) (a7 : (List Nat)) (a8 : (List S33)) (a9 : Int) (a10 : Int) : Option (Option Ri4) :=
 bT (i6 k a7 a8 a9 a10) fun x0_1 => some (some (x0_1.1.f0, x0_1.1.f1, x0_1.1.f2, x0_1.1.f3, x0_1.1.f4, x0_1.1.f5, x0_1.1.f6, x0_1.2))
theorem i4_all (k : Nat) : ∀ a0 a1 a2 a3 a4 a5 a6 a7 a8 a9 a10 r, i4 k a0 a1 a2 a3 a4 a5 a6 a7 a8 a9 a10 = some r → CallT Try.prog 34 [.ptr 1 4 0, .ptr 0 7 0] (mkH [⟨[.i a0, .str a1, q29 a2, .bool a3, .bool a4, w9 a5, w9 a6], 7, false⟩, ⟨[.str a7, w34 a8, .i a9, .i a10], 4, false⟩]) ((Xi4 a0 a1 a2 a3 a4 a5 a6 a7 a8 a9 a10).thr r) ((Xi4 a0 a1 a2 a3 a4 a5 a6 a7 a8 a9 a10).enc r) ((Xi4 a0 a1 a2 a3 a4 a5 a6 a7 a8 a9 a10).fin r) := by
 intro a0 a1 a2 a3 a4 a5 a6 a7 a8 a9 a10 r h
 refine qA2 (Xi4 a0 a1 a2 a3 a4 a5 a6 a7 a8 a9 a10) Try.func34 (by kernel_rfl) (by kernel_rfl) rfl (t := i4 k a0 a1 a2 a3 a4 a5 a6 a7 a8 a9 a10) ?_ h
 unfold i4
 refine qA (eE := [(0, .ptr 1 4 0), (1, .ptr 0 7 0)]) (by kernel_rfl) ?_
 let Q1 : Blk := ⟨[.i a0, .str a1, q29 a2, .bool a3, .bool a4, w9 a5, w9 a6], 7, false⟩
 refine oH 2 (atN 1 (ctl1 i4p0)) [(3, .ptr 1 4 0), (0, .ptr 1 4 0), (1, .ptr 0 7 0)] (mkH [Q1, ⟨[.str a7, w34 a8, .i a9, .i a10], 4, false⟩]) ?_
 refine oX (fun (x0_1 : (S28 × Int)) => n29 x0_1.1) (fun x0_1 => [Q1, ⟨[.str a7, w34 a8, .i x0_1.2, .i a10], 4, false⟩]) (atN 2 (ctl1 i4p0)) 4 [1] [] [] [1] [] [.ptr 1 4 0] (i6_ok k a7 a8 a9 a10) trivial (fun _ => trivial) trivial fun x0_1 hx0_1 => ?_
 exact oQF 2 [⟨e29 x0_1.1, 7, false⟩, ⟨[.str a7, w34 a8, .i x0_1.2, .i a10], 4, false⟩] 2 [] [] (.tuple []) .ps trivial
theorem i4_ok (k : Nat) : Pi4 (i4 k) := fun a0 a1 a2 a3 a4 a5 a6 a7 a8 a9 a10 => ⟨fun x h => i4_all k a0 a1 a2 a3 a4 a5 a6 a7 a8 a9 a10 (some x) h, fun h => ⟨_, i4_all k a0 a1 a2 a3 a4 a5 a6 a7 a8 a9 a10 none h⟩⟩
abbrev Ri1 : Type := (Int × Int × (List (List Nat)) × Int × (List Nat) × Raw × Bool × Bool × (List (List Nat)))
abbrev Ti1 : Type := (List Nat) → (List S33) → Int → Int → Int → (List Nat) → Raw → Bool → Bool → (List (List Nat)) → (List (List Nat)) → Option Ri1
def Xi1 (a0 : (List Nat)) (a1 : (List S33)) (a2 : Int) (a3 : Int) (a4 : Int) (a5 : (List Nat)) (a6 : Raw) (a7 : Bool) (a8 : Bool) (a9 : (List (List Nat))) (a10 : (List (List Nat))) : Fx Ri1 := ⟨Try.prog, cx, Try.f27, fun r => .tuple [.i r.1, .i r.2.1], 1, fun r => (mkH [⟨[.i r.2.2.2.1, .str r.2.2.2.2.1, q29 r.2.2.2.2.2.1, .bool r.2.2.2.2.2.2.1, .bool r.2.2.2.2.2.2.2.1, w9 r.2.2.2.2.2.2.2.2, w9 r.2.2.1], 7, false⟩]), cxTi, cxOrd, fun _ => none, true⟩
def Pi1 (f : Ti1) : Prop := ∀ a0 a1 a2 a3 a4 a5 a6 a7 a8 a9 a10, PNh (Xi1 a0 a1 a2 a3 a4 a5 a6 a7 a8 a9 a10) 27 [.str a0, w34 a1, .i a2, .i a3, .func 34 [] [.ptr 0 7 0]] (mkH [⟨[.i a4, .str a5, q29 a6, .bool a7, .bool a8, w9 a9, w9 a10], 7, false⟩]) (f a0 a1 a2 a3 a4 a5 a6 a7 a8 a9 a10)
def i1p1 : Pt := nav [0, 0, 0, 0] (nav [0] (bodyAt Try.f27))
def i1p2 : Pt := nav [0, 0] i1p1
def i1p6 : Pt := nav [0, 0, 0] (nav [2, 0, 0] i1p2)
def i1p7 : Pt := nav [0, 0, 0] i1p6
def i1 (k : Nat) (a0 : (List Nat)) (a1 : (List S33)) (a2 : Int) (a3 : Int) (a4 : Int) (a5 : (List Nat)) (a6 : Raw) (a7 : Bool) (a8 : Bool) (a9 : (List (List Nat))) (a10 : (List (List Nat))) : Option Ri1 :=
 jn (fun (z1 : Bool) => if z1 then (some ((0 : Int), (8 : Int), a10, a4, a5, a6, a7, a8, a9)) else (cT (i4 k a4 a5 a6 a7 a8 a9 a10 a0 a1 a2 a3) (some ((0 : Int), (8 : Int), a10, a4, a5, a6, a7, a8, a9)) fun x0_2 => some (x0_2.2.2.2.2.2.2.2, (0 : Int), x0_2.2.2.2.2.2.2.1, x0_2.1, x0_2.2.1, x0_2.2.2.1, x0_2.2.2.2.1, x0_2.2.2.2.2.1, x0_2.2.2.2.2.2.1))) (fun j1 => if (decide (a2 < 0)) then (j1 true) else (if (decide ((a1.length : Int) < a3)) then (j1 true) else (j1 (decide (a3 < a2)))))
theorem i1_all (k : Nat) : ∀ a0 a1 a2 a3 a4 a5 a6 a7 a8 a9 a10 r, i1 k a0 a1 a2 a3 a4 a5 a6 a7 a8 a9 a10 = some r → CallT Try.prog 27 [.str a0, w34 a1, .i a2, .i a3, .func 34 [] [.ptr 0 7 0]] (mkH [⟨[.i a4, .str a5, q29 a6, .bool a7, .bool a8, w9 a9, w9 a10], 7, false⟩]) ((Xi1 a0 a1 a2 a3 a4 a5 a6 a7 a8 a9 a10).thr r) ((Xi1 a0 a1 a2 a3 a4 a5 a6 a7 a8 a9 a10).enc r) ((Xi1 a0 a1 a2 a3 a4 a5 a6 a7 a8 a9 a10).fin r) := by
 intro a0 a1 a2 a3 a4 a5 a6 a7 a8 a9 a10 r h
 refine qA2 (Xi1 a0 a1 a2 a3 a4 a5 a6 a7 a8 a9 a10) Try.func27 (by kernel_rfl) (by kernel_rfl) rfl (t := i1 k a0 a1 a2 a3 a4 a5 a6 a7 a8 a9 a10) ?_ h
 unfold i1
 refine qA (eE := [(0, .str a0), (1, w34 a1), (2, .i a2), (3, .i a3), (4, .func 34 [] [.ptr 0 7 0])]) (by kernel_rfl) ?_
 let E1 : Env := [(15, .bool (decide (a2 < 0))), (14, .bool (decide (a2 < 0))), (13, .i a2), (11, .ptr 2 1 0), (10, .ptr 1 1 0), (0, .str a0), (1, w34 a1), (2, .i a2), (3, .i a3), (4, .func 34 [] [.ptr 0 7 0])]
 let Q1 : Blk := ⟨[.i a4, .str a5, q29 a6, .bool a7, .bool a8, w9 a9, w9 a10], 7, false⟩
 let K1 : List Blk := [Q1, ⟨[.i 0], 0, false⟩, ⟨[.i 0], 0, false⟩]
 refine oH 11 (atN 3 (ctl1 i1p1)) E1 (mkH K1) ?_
 refine oJ i1p2 (fun (z1 : Bool) => [(0, .str a0), (1, w34 a1), (2, .i a2), (3, .i a3), (4, .func 34 [] [.ptr 0 7 0]), (10, .ptr 1 1 0), (11, .ptr 2 1 0), (25, .bool z1)]) (fun (z1 : Bool) => (mkH K1)) (fun z1 => ?_) (fun j1 hj1 => ?_)
 ·refine oS 25 (fun hb => ?_) (fun hb => ?_)
  ·let E2 : Env := [(25, .bool true), (0, .str a0), (1, w34 a1), (2, .i a2), (3, .i a3), (4, .func 34 [] [.ptr 0 7 0]), (10, .ptr 1 1 0), (11, .ptr 2 1 0), (25, .bool z1)]
   exact oQF 7 [Q1, ⟨[.i 0], 1, false⟩, ⟨[.i 8], 1, false⟩] 1 [] [.i 0, .i 8] (.tuple [.i 0, .i 8]) .ps trivial
  ·let E4 : Env := [(4, .func 34 [] [.ptr 0 7 0]), (10, .ptr 1 1 0), (11, .ptr 2 1 0), (12, .ptr 3 4 0)]
   let K2 : List Blk := [Q1, ⟨[.i 0], 0, false⟩, ⟨[.i 0], 0, false⟩, ⟨[.str a0, w34 a1, .i a2, .i a3], 0, false⟩]
   refine oLH 13 i1p6 E4 (mkH K2) ?_
   refine oR 2 (atN 1 (ctl1 i1p6)) ((32, .func 46 [] [.ptr 1 1 0, .ptr 2 1 0]) :: E4) ?_
   refine qJe (f := 46) (caps := [.ptr 1 1 0, .ptr 2 1 0]) (by kernel_rfl) ?_
   refine okD_at (p' := (atN 2 (ctl1 i1p6))) (by kernel_rfl) ?_
   refine qE2 5 (p' := (atN 2 (ctl1 i1p7))) (eE := ((34, .ptr 3 4 0) :: (33, .func 34 [] [.ptr 0 7 0]) :: (32, .func 46 [] [.ptr 1 1 0, .ptr 2 1 0]) :: E4)) (H' := (mkH K2)) (by kernel_rfl) ?_
   let Q3 : Blk := ⟨[.str a0, w34 a1, .i a2, .i a3], 4, false⟩
   let K3 : List Blk := [Q1, ⟨[.i 0], 0, false⟩, ⟨[.i 0], 0, false⟩, Q3]
   let K4 : List Blk := [Q1, ⟨[.i 0], 1, false⟩, ⟨[.i 8], 1, false⟩, Q3]
   refine qJg (tv := thrown) (D := [3]) (rc := ((0 : Int), (8 : Int), a10, a4, a5, a6, a7, a8, a9)) (tc := some ((0 : Int), (8 : Int), a10, a4, a5, a6, a7, a8, a9)) (xs := [.i 0, .i 8]) (v := .tuple [.i 0, .i 8]) (fi := 34) (args := [.ptr 3 4 0, .ptr 0 7 0]) (fun (x0_2 : Ri4) => .tuple []) (fun (x0_2 : Ri4) => (mkH [⟨[.i x0_2.1, .str x0_2.2.1, q29 x0_2.2.2.1, .bool x0_2.2.2.2.1, .bool x0_2.2.2.2.2.1, w9 x0_2.2.2.2.2.2.1, w9 x0_2.2.2.2.2.2.2.1], 7, false⟩, ⟨[.i 0], 0, false⟩, ⟨[.i 0], 0, false⟩, ⟨[.str a0, w34 a1, .i x0_2.2.2.2.2.2.2.2, .i a3], 4, false⟩])) (atN 3 (ctl1 i1p7)) (fun x0_2 => [(35, .tuple []), (34, .ptr 3 4 0), (33, .func 34 [] [.ptr 0 7 0]), (32, .func 46 [] [.ptr 1 1 0, .ptr 2 1 0]), (4, .func 34 [] [.ptr 0 7 0]), (10, .ptr 1 1 0), (11, .ptr 2 1 0), (12, .ptr 3 4 0)]) K3 [Q1] [⟨[.i 0], 1, false⟩, ⟨[.i 8], 1, false⟩, Q3] [(10, .ptr 1 1 0), (11, .ptr 2 1 0)] [10, 11] 3 rfl rfl (by kernel_rfl) (fun h => frS 0 (M := K3) (rs := [0, 3]) (ms := []) (mv := []) (mm := []) (D := [3]) (xs' := [.ptr 3 4 0, .ptr 0 7 0]) (.refl) ((i4_ok k a4 a5 a6 a7 a8 a9 a10 a0 a1 a2 a3).2 h) trivial trivial (by kernel_rfl)) (by kernel_rfl) (by kernel_rfl) (by kernel_rfl) (by kernel_rfl) (qDq (⟨Try.prog, cx, Try.f46, fun _ => .tuple [], 4, fun _ => (mkH K4), cxTi, cxOrd, fun _ => none, false⟩ : Fx Unit) 5 2 (x := .iface 72 (.agg [])) qEk (by kernel_rfl) (by kernel_rfl) (by kernel_rfl) rfl rfl rfl rfl ?_) rfl (by kernel_rfl) (by kernel_rfl) (by kernel_rfl) (.pures (by kernel_rfl)) ⟨(by kernel_rfl), trivial⟩ (by kernel_rfl) (by kernel_rfl) (fun x0_2 h => frW 0 K3 (rs := [0, 3]) (ms := []) (ms' := []) (mv := []) (xs' := [.ptr 3 4 0, .ptr 0 7 0]) (.refl) ((i4_ok k a4 a5 a6 a7 a8 a9 a10 a0 a1 a2 a3).1 x0_2 h) trivial trivial (by kernel_rfl)) (fun _ => by kernel_rfl) (fun x0_2 hx0_2 => ?_)
   ·refine oE [(2, .iface 72 (.agg [])), (5, .iface 72 (.agg [])), (0, .ptr 1 1 0), (1, .ptr 2 1 0)] ?_
    let E1 : Env := [(4, .bool true), (3, .ptr 4 0 0), (12, .bool true), (11, .agg []), (8, .tuple [.agg [], .bool true]), (10, .tuple [.agg [], .bool true]), (9, .iface 72 (.agg [])), (7, .bool true), (6, .iface 72 (.agg [])), (2, .iface 72 (.agg [])), (5, .iface 72 (.agg [])), (0, .ptr 1 1 0), (1, .ptr 2 1 0)]
    let E2 : Env := [(0, .ptr 1 1 0), (1, .ptr 2 1 0), (2, .iface 72 (.agg [])), (4, .bool true)]
    refine oLH 19 (nav [0, 0, 0] (nav [1, 0, 0] (nav [0, 0] (nav [0] (restAt Try.f46))))) E2 (mkH [Q1, ⟨[.i 0], 0, false⟩, ⟨[.i 0], 0, false⟩, Q3, ⟨[], 0, false⟩]) ?_
    refine oH 10 .fin ((14, .bool false) :: (13, .bool true) :: E2) (mkH [Q1, ⟨[.i 0], 1, false⟩, ⟨[.i 8], 1, false⟩, Q3, ⟨[], 0, false⟩]) ?_
    refine qAa K4 [⟨[], 0, false⟩] (by kernel_rfl) rfl (by kernel_rfl) ⟨(by kernel_rfl), ⟨(by kernel_rfl), ⟨(by kernel_rfl), ⟨(by kernel_rfl), trivial⟩⟩⟩⟩ ?_
    exact qFn (r := ()) (xs := []) (by kernel_rfl) (by kernel_rfl) (by kernel_rfl) (by kernel_rfl)
   ·let Q4 : Blk := ⟨[.i x0_2.1, .str x0_2.2.1, q29 x0_2.2.2.1, .bool x0_2.2.2.2.1, .bool x0_2.2.2.2.2.1, w9 x0_2.2.2.2.2.2.1, w9 x0_2.2.2.2.2.2.2.1], 7, false⟩
    let Q5 : Blk := ⟨[.i x0_2.2.2.2.2.2.2.2], 1, false⟩
    let Q6 : Blk := ⟨[.str a0, w34 a1, .i x0_2.2.2.2.2.2.2.2, .i a3], 4, false⟩
    refine qE2 11 (p' := .fin) (eE := ((39, .i x0_2.2.2.2.2.2.2.2) :: (38, .ptr 3 4 2) :: (37, .ptr 3 4 0) :: (36, .ptr 3 4 0) :: (35, .tuple []) :: (34, .ptr 3 4 0) :: (33, .func 34 [] [.ptr 0 7 0]) :: (32, .func 46 [] [.ptr 1 1 0, .ptr 2 1 0]) :: E4)) (H' := (mkH [Q4, Q5, ⟨[.i 0], 1, false⟩, Q6])) (by kernel_rfl) ?_
    refine qMq (r := (x0_2.2.2.2.2.2.2.2, (0 : Int), x0_2.2.2.2.2.2.2.1, x0_2.1, x0_2.2.1, x0_2.2.2.1, x0_2.2.2.2.1, x0_2.2.2.2.2.1, x0_2.2.2.2.2.2.1)) (xs := [.i x0_2.2.2.2.2.2.2.2, .i 0]) (v := .tuple [.i x0_2.2.2.2.2.2.2.2, .i 0]) [Q4, Q5, ⟨[.i 0], 1, false⟩, Q6] [Q4] [Q5, ⟨[.i 0], 1, false⟩, Q6] rfl rfl (qDq (⟨Try.prog, cx, Try.f46, fun _ => .tuple [], 4, fun _ => (mkH [Q4, Q5, ⟨[.i 0], 1, false⟩, Q6]), cxTi, cxOrd, fun _ => none, false⟩ : Fx Unit) 5 2 (x := .nili) qJi (by kernel_rfl) (by kernel_rfl) (by kernel_rfl) rfl rfl rfl rfl ?_) (by kernel_rfl) (by kernel_rfl) (by kernel_rfl) (by kernel_rfl) (.pures (by kernel_rfl)) ⟨(by kernel_rfl), trivial⟩ (by kernel_rfl) (by kernel_rfl)
    let E1 : Env := [(7, .bool false), (6, .nili), (2, .nili), (5, .nili), (0, .ptr 1 1 0), (1, .ptr 2 1 0)]
    refine oH 7 .fin E1 (mkH [Q4, Q5, ⟨[.i 0], 1, false⟩, Q6]) ?_
    exact qFn (r := ()) (xs := []) (by kernel_rfl) (by kernel_rfl) (by kernel_rfl) (by kernel_rfl)
 ·refine oS 15 (fun hb => ?_) (fun hb => ?_)
  ·refine oLH 11 i1p2 [(0, .str a0), (1, w34 a1), (2, .i a2), (3, .i a3), (4, .func 34 [] [.ptr 0 7 0]), (10, .ptr 1 1 0), (11, .ptr 2 1 0), (25, .bool true)] (mkH K1) ?_
   exact hj1 true
  ·let E8 : Env := ((21, .bool (decide ((a1.length : Int) < a3))) :: (20, .bool (decide ((a1.length : Int) < a3))) :: (19, .bool (decide ((a1.length : Int) < a3))) :: (18, .i (a1.length : Int)) :: (17, w34 a1) :: (16, .i a3) :: (15, .bool false) :: E1)
   refine oH 6 (atN 9 (ctl1 i1p1)) E8 (mkH K1) ?_
   refine oS 21 (fun hb => ?_) (fun hb => ?_)
   ·refine oR 5 i1p2 ((25, .bool true) :: (24, .tuple []) :: (23, .tuple []) :: (22, .tuple []) :: (21, .bool true) :: E8) ?_
    refine oK [0, 1, 2, 3, 4, 10, 11, 25] [(0, .str a0), (1, w34 a1), (2, .i a2), (3, .i a3), (4, .func 34 [] [.ptr 0 7 0]), (10, .ptr 1 1 0), (11, .ptr 2 1 0), (25, .bool true)] ?_
    exact hj1 true
   ·refine oL 5 i1p2 [(0, .str a0), (1, w34 a1), (2, .i a2), (3, .i a3), (4, .func 34 [] [.ptr 0 7 0]), (10, .ptr 1 1 0), (11, .ptr 2 1 0), (25, .bool (decide (a3 < a2)))] ?_
    exact hj1 (decide (a3 < a2))
theorem i1_ok (k : Nat) : Pi1 (i1 k) := fun a0 a1 a2 a3 a4 a5 a6 a7 a8 a9 a10 => fun x h => i1_all k a0 a1 a2 a3 a4 a5 a6 a7 a8 a9 a10 x h
def Xg23 : Fx (S28 × Int × Int) := ⟨Try.prog, cx, Try.f23, fun r => .tuple [.agg [.i r.1.f0, .str r.1.f1, q29 r.1.f2, .bool r.1.f3, .bool r.1.f4, w9 r.1.f5, w9 r.1.f6], .i r.2.1, .i r.2.2], 0, fun _ => H0, cxTi, cxOrd, fun _ => none, false⟩
def g23p2 : Pt := nav [0, 0, 0] (nav [0, 0, 0] (nav [0] (bodyAt Try.f23)))
def g23p3 : Pt := nav [0, 0, 0] g23p2
def g23 (k : Nat) (a0 : (List Nat)) (a1 : (List S33)) (a2 : Int) (a3 : Int) : Option (S28 × Int × Int) :=
 (i1 k a0 a1 a2 a3 (0 : Int) ([] : List Nat) (⟨(([] : List S28)).length, (([] : List S28)).flatMap e29⟩ : Raw) false false ([] : List (List Nat)) ([] : List (List Nat))).bind fun x0_5 => (g30 k (⟨x0_5.2.2.2.1, x0_5.2.2.2.2.1, x0_5.2.2.2.2.2.1, x0_5.2.2.2.2.2.2.1, x0_5.2.2.2.2.2.2.2.1, x0_5.2.2.2.2.2.2.2.2, x0_5.2.2.1⟩ : S28) x0_5.2.1).bind fun x1_2 => some (x1_2, x0_5.1, x0_5.2.1)
theorem g23_ok (k : Nat) (a0 : (List Nat)) (a1 : (List S33)) (a2 : Int) (a3 : Int) (r : (S28 × Int × Int)) (h : g23 k a0 a1 a2 a3 = some r) : PureOk Try.prog 23 [.str a0, w34 a1, .i a2, .i a3] (.tuple [.agg [.i r.1.f0, .str r.1.f1, q29 r.1.f2, .bool r.1.f3, .bool r.1.f4, w9 r.1.f5, w9 r.1.f6], .i r.2.1, .i r.2.2]) := by
 refine qA6 Xg23 (fun _ => ⟨rfl, rfl⟩) Try.func23 (by decide +kernel) (by kernel_rfl) (t := g23 k a0 a1 a2 a3) ?_ h
 unfold g23
 refine qA (eE := [(0, .str a0), (1, w34 a1), (2, .i a2), (3, .i a3)]) (by kernel_rfl) ?_
 let E1 : Env := [(11, .ptr 1 7 0), (10, .i 0), (9, .i 0), (8, .ptr 0 7 0), (0, .str a0), (1, w34 a1), (2, .i a2), (3, .i a3)]
 let Q1 : Blk := ⟨[.i 0, .str [], .nils, .bool false, .bool false, .nils, .nils], 0, false⟩
 refine oH 11 g23p2 E1 (mkH [Q1, Q1]) ?_
 refine qCu [Q1, Q1] 1 0 [.i 0, .str [], .nils, .bool false, .bool false, .nils, .nils] [.i 0, .str [], w29 ([] : List S28), .bool false, .bool false, w9 ([] : List (List Nat)), w9 ([] : List (List Nat))] (by kernel_rfl) rfl (.cons (.cons (.nil (.cons (.cons (.nil (.nil (.refl)))))))) ?_
 let E2 : Env := ((19, .func 34 [] [.ptr 1 7 0]) :: (18, .i a3) :: (17, .i a2) :: (16, w34 a1) :: (15, .str a0) :: E1)
 refine oH 6 (atN 5 (ctl1 g23p2)) E2 (mkH [Q1, ⟨[.i 0, .str [], w29 ([] : List S28), .bool false, .bool false, w9 ([] : List (List Nat)), w9 ([] : List (List Nat))], 0, false⟩]) ?_
 refine qFp (fun (x0_5 : Ri1) => .tuple [.i x0_5.1, .i x0_5.2.1]) (fun (x0_5 : Ri1) => (mkH [Q1, ⟨[.i x0_5.2.2.2.1, .str x0_5.2.2.2.2.1, q29 x0_5.2.2.2.2.2.1, .bool x0_5.2.2.2.2.2.2.1, .bool x0_5.2.2.2.2.2.2.2.1, w9 x0_5.2.2.2.2.2.2.2.2, w9 x0_5.2.2.1], 7, false⟩])) (atN 6 (ctl1 g23p2)) (fun x0_5 => ((20, .tuple [.i x0_5.1, .i x0_5.2.1]) :: E2)) (fi := 27) (args := [.str a0, w34 a1, .i a2, .i a3, .func 34 [] [.ptr 1 7 0]]) (by kernel_rfl) (fun x0_5 h => frW 0 [Q1, ⟨[.i 0, .str [], w29 ([] : List S28), .bool false, .bool false, w9 ([] : List (List Nat)), w9 ([] : List (List Nat))], 7, false⟩] (rs := [1]) (ms := []) (ms' := []) (mv := []) (xs' := [.str a0, w34 a1, .i a2, .i a3, .func 34 [] [.ptr 1 7 0]]) (.refl) (i1_ok k a0 a1 a2 a3 (0 : Int) ([] : List Nat) (⟨(([] : List S28)).length, (([] : List S28)).flatMap e29⟩ : Raw) false false ([] : List (List Nat)) ([] : List (List Nat)) x0_5 h) trivial trivial (by kernel_rfl)) (fun _ => by kernel_rfl) (fun x0_5 hx0_5 => ?_)
 let E4 : Env := [(8, .ptr 0 7 0), (11, .ptr 1 7 0), (12, .i x0_5.1), (13, .i x0_5.2.1)]
 refine oLH 7 g23p3 E4 (mkH [Q1, ⟨[.i x0_5.2.2.2.1, .str x0_5.2.2.2.2.1, q29 x0_5.2.2.2.2.2.1, .bool x0_5.2.2.2.2.2.2.1, .bool x0_5.2.2.2.2.2.2.2.1, w9 x0_5.2.2.2.2.2.2.2.2, w9 x0_5.2.2.1], 7, false⟩]) ?_
 refine oR 3 (atN 2 (ctl1 g23p3)) ((24, .i x0_5.2.1) :: (23, .agg [.i x0_5.2.2.2.1, .str x0_5.2.2.2.2.1, q29 x0_5.2.2.2.2.2.1, .bool x0_5.2.2.2.2.2.2.1, .bool x0_5.2.2.2.2.2.2.2.1, w9 x0_5.2.2.2.2.2.2.2.2, w9 x0_5.2.2.1]) :: E4) ?_
 refine oA (fun (x1_2 : S28) => n29 x1_2) (atN 3 (ctl1 g23p3)) 25 [.agg [.i x0_5.2.2.2.1, .str x0_5.2.2.2.2.1, q29 x0_5.2.2.2.2.2.1, .bool x0_5.2.2.2.2.2.2.1, .bool x0_5.2.2.2.2.2.2.2.1, w9 x0_5.2.2.2.2.2.2.2.2, w9 x0_5.2.2.1], .i x0_5.2.1] (g30_ok k (⟨x0_5.2.2.2.1, x0_5.2.2.2.2.1, x0_5.2.2.2.2.2.1, x0_5.2.2.2.2.2.2.1, x0_5.2.2.2.2.2.2.2.1, x0_5.2.2.2.2.2.2.2.2, x0_5.2.2.1⟩ : S28) x0_5.2.1) fun x1_2 hx1_2 => ?_
 exact oQ 7
end
theorem pos_all {L : List S33} {W : List Tkn} {k : Nat} {s : List Nat} (hv : Vw k s L (L.length : Int) W) : pos (L.length : Int) W = 0 := by
 have := hv.len
 unfold pos
 omega
theorem cT_some {α R : Type} {m : Option (Option α)} {x : α} {d r : Option R} {f : α → Option R} (h : m = some (some x)) (k : f x = r) : cT m d f = r := by rw [h]; exact k
theorem body_top {k n : Nat} {s : List Nat} {L : List S33} {W : List Tkn} {nd : S28} {r : List Tkn} (hv : ∀ j, Vw (k + j) s L (L.length : Int) W) (h : (cpar k n).c6 W = some (some (nd, r))) : g23 (k + n) s L 0 (L.length : Int) = some (nd, pos (L.length : Int) r, 0) := by
 obtain ⟨h1, -⟩ := (qC hv n).c6 W (List.suffix_refl W) _ h
 rw [pos_all (hv 0)] at h1
 have h2 : i4 (k + n) 0 [] ⟨0, []⟩ false false [] [] s L 0 (L.length : Int) = some (some (nd.f0, nd.f1, nd.f2, nd.f3, nd.f4, nd.f5, nd.f6, pos (L.length : Int) r)) := by
  unfold i4
  refine (congrArg (fun m => bT m _) h1).trans rfl
 unfold g23
 refine bS (a := (pos (L.length : Int) r, 0, nd.f6, nd.f0, nd.f1, nd.f2, nd.f3, nd.f4, nd.f5)) ?_ (bS rfl rfl)
 unfold i1
 exact (jS (v := false) (fun j => iF (by decide) (iF (dF (by omega)) (by rw [dF (by omega)])))).trans (iF rfl (cT_some h2 rfl))
theorem bT_s {α β : Type} {m : Option (Option α)} {x : α} {f : α → Option (Option β)} {r : Option (Option β)} (h : m = some (some x)) (k : f x = r) : bT m f = r := by rw [h]; exact k
def wB (b : Bool) : List Nat := if b then [10, 10] else []
def callP (c : Nat) : List Pc := [⟨[], [40], 9⟩, ⟨[], [49], 3⟩, ⟨[], [41], 9⟩]
def itP (b n : Bool) (c : Nat) : List Pc := if n then ⟨wB b, [37, 110], 11⟩ :: ⟨[10], [120, c], 1⟩ :: callP c else ⟨wB b, [120, c], 1⟩ :: callP c
def moreP : Nat → List (Bool × Bool) → List Pc
 | _, [] => []
 | j, (b, n) :: r => ⟨[], [44], 9⟩ :: (itP b n (97 + j) ++ moreP (j + 1) r)
def litN (t : List Nat) : S28 := ⟨1, t, ⟨0, []⟩, false, false, [], []⟩
def callN (c : Nat) (bl : Bool) (no : List (List Nat)) : S28 := ⟨2, [], ⟨[litN [120, c], litN [49]].length, [litN [120, c], litN [49]].flatMap e29⟩, false, bl, no, []⟩
def moreN : Nat → List (Bool × Bool) → List S28
 | _, [] => []
 | j, (b, n) :: r => callN (97 + j) b (if n then [[37, 110]] else []) :: moreN (j + 1) r
theorem call_nil (c : Nat) (p0 p1 p2 p3 g0 g1 g3 : Int) : (cpar 300 99).c5 0 [(⟨1, [120, c], p0⟩, g0), (⟨9, [40], p1⟩, g1), (⟨3, [49], p2⟩, 0), (⟨9, [41], p3⟩, g3)] = some (some (callN c false [], [])) := by kernel_rfl
theorem qLj (c : Nat) (p0 p1 p2 p3 p4 g0 g1 g3 g4 : Int) (r : List Tkn) : (cpar 300 99).c5 0 ((⟨1, [120, c], p0⟩, g0) :: (⟨9, [40], p1⟩, g1) :: (⟨3, [49], p2⟩, 0) :: (⟨9, [41], p3⟩, g3) :: (⟨9, [44], p4⟩, g4) :: r) = some (some (callN c false [], (⟨9, [44], p4⟩, g4) :: r)) := by kernel_rfl
def nt (n : Bool) : List (List Nat) := if n then [[37, 110]] else []
def bodN (l : List S28) : S28 := ⟨25, [], ⟨l.length, l.flatMap e29⟩, false, false, [], []⟩
theorem app104 {l x : List S28} (h : l.length + x.length ≤ 1000000) : appS 104 l x = some (l ++ x) := by
 unfold appS
 rw [if_pos ⟨by omega, by omega⟩]
theorem qD7 (j : Nat) (b n : Bool) (r : List (Bool × Bool)) : moreN j ((b, n) :: r) = callN (97 + j) b (nt n) :: moreN (j + 1) r := rfl
theorem bod_l : ∀ (l : List (Bool × Bool)) (j i n : Nat) (b0 n0 f : Bool) (acc : List S28), l.length < n → acc.length + l.length < 1000 → (f = true → acc = []) → (f = false → 0 < acc.length) →
 qLk 399 (cpar 300 99) n (vwp f i (itP b0 n0 (97 + j) ++ moreP (j + 1) l)) acc = some (some (bodN (acc ++ callN (97 + j) (!f && b0) (nt n0) :: moreN (j + 1) l), [])) := by
 intro l
 induction l with
 | nil =>
  intro j i n b0 n0 f acc hn ha h1 h2
  obtain ⟨n, rfl⟩ : ∃ m, n = m + 1 := ⟨n - 1, by omega⟩
  show qEa 399 (cpar 300 99) (qLk 399 (cpar 300 99) n) _ acc = _
  unfold qEa
  refine (jS (v := (!f && b0, vwp f i (itP b0 n0 (97 + j) ++ moreP (j + 1) []), acc)) (fun q => ?_)).trans ?_
  ·cases f with
   | true => rw [h1 rfl]; exact iF rfl rfl
   | false => refine iT (dT (by have := h2 rfl; omega)) ?_; cases b0 <;> cases n0 <;> rfl
  ·refine bS (a := (nt n0, vwp (f && !n0) (i + if n0 then (wB b0).length + 2 else 0) ((if n0 then ⟨[10], [120, 97 + j], 1⟩ else ⟨wB b0, [120, 97 + j], 1⟩) :: callP (97 + j)))) (by cases n0 <;> cases b0 <;> cases f <;> rfl) ?_
   refine bT_s (x := (callN (97 + j) false [], [])) (by cases n0 <;> cases b0 <;> cases f <;> exact call_nil _ _ _ _ _ _ _ _) ?_
   refine bS (app104 (by simp; omega)) (bT_s (x := (false, [])) rfl (iF rfl ?_))
   cases f <;> cases b0 <;> cases n0 <;> rfl
 | cons x l ih =>
  obtain ⟨b1, n1⟩ := x
  intro j i n b0 n0 f acc hn ha h1 h2
  obtain ⟨n, rfl⟩ : ∃ m, n = m + 1 := ⟨n - 1, by omega⟩
  simp only [List.length_cons] at hn ha
  show qEa 399 (cpar 300 99) (qLk 399 (cpar 300 99) n) _ acc = _
  unfold qEa
  refine (jS (v := (!f && b0, vwp f i (itP b0 n0 (97 + j) ++ moreP (j + 1) ((b1, n1) :: l)), acc)) (fun q => ?_)).trans ?_
  ·cases f with
   | true => rw [h1 rfl]; exact iF rfl rfl
   | false => refine iT (dT (by have := h2 rfl; omega)) ?_; cases b0 <;> cases n0 <;> rfl
  ·refine bS (a := (nt n0, vwp (f && !n0) (i + if n0 then (wB b0).length + 2 else 0) ((if n0 then ⟨[10], [120, 97 + j], 1⟩ else ⟨wB b0, [120, 97 + j], 1⟩) :: (callP (97 + j) ++ moreP (j + 1) ((b1, n1) :: l))))) (by cases n0 <;> cases b0 <;> cases f <;> rfl) ?_
   refine bT_s (x := (callN (97 + j) false [], vwp false (i + (if n0 then (wB b0).length + 3 else (wB b0).length) + 5) (moreP (j + 1) ((b1, n1) :: l)))) (by cases n0 <;> cases b0 <;> cases f <;> exact qLj _ _ _ _ _ _ _ _ _ _ _) ?_
   refine bS (app104 (by simp; omega)) (bT_s (x := (true, vwp false (i + (if n0 then (wB b0).length + 3 else (wB b0).length) + 5 + 1) (itP b1 n1 (97 + (j + 1)) ++ moreP (j + 1 + 1) l))) rfl (iT rfl ?_))
   refine (ih (j + 1) _ n b1 n1 false _ (by omega) (by simp; omega) (fun e => by cases e) (fun _ => by simp)).trans ?_
   rw [qD7]
   simp only [List.append_assoc, List.singleton_append, Bool.not_false, Bool.true_and]
   cases f <;> cases b0 <;> cases n0 <;> rfl
theorem qLu (rest : List Nat) : TokAt [44] 9 rest := qFb rfl rfl (by decide) rfl
theorem tok_open (rest : List Nat) : TokAt [40] 9 rest := qFb rfl rfl (by decide) rfl
theorem tok_shut (rest : List Nat) : TokAt [41] 9 rest := qFb rfl rfl (by decide) rfl
theorem c8 {P : Nat → Prop} (h : P 97 ∧ P 98 ∧ P 99 ∧ P 100 ∧ P 101 ∧ P 102 ∧ P 103 ∧ P 104) {j : Nat} (hj : j < 8) : P (97 + j) := by
 obtain ⟨h0, h1, h2, h3, h4, h5, h6, h7⟩ := h
 match j, hj with
 | 0, _ => exact h0
 | 1, _ => exact h1
 | 2, _ => exact h2
 | 3, _ => exact h3
 | 4, _ => exact h4
 | 5, _ => exact h5
 | 6, _ => exact h6
 | 7, _ => exact h7
theorem tok_x {j : Nat} (hj : j < 8) (rest : List Nat) : TokAt [120, 97 + j] 1 (40 :: rest) := by
 have hin : inrN (97 + j) = true := c8 (P := fun c => inrN c = true) (by decide) hj
 have hrs : rsvN [120, 97 + j] = false := c8 (P := fun c => rsvN [120, c] = false) (by decide) hj
 have := name_tok (t := [120, 97 + j]) (rest := 40 :: rest) rfl (.inl rfl) (by
  intro c hc
  rcases List.mem_cons.1 hc with rfl | hc
  ·rfl
  ·rw [List.mem_singleton.1 hc]; exact hin) (.inr ⟨40, rest, rfl, rfl⟩)
 rw [hrs] at this
 exact this
theorem wB_blk (b : Bool) : ∀ c ∈ wB b, blkN c = true := by cases b <;> decide
theorem not10_n : ∀ c ∈ [37, 110], ¬ c = 10 := by decide
theorem blk_10 : ∀ c ∈ [10], blkN c = true := by decide
theorem trim_n : g37 400 [37, 110] = some [37, 110] := by kernel_rfl
theorem qM4 {c : Nat} {rest : List Pc} (h : Sc rest) : Sc (callP c ++ rest) :=
 ⟨(fun c h => by cases h), ⟨40, [], rfl, rfl⟩, tok_open _, (fun c h => by cases h), ⟨49, [], rfl, rfl⟩, one_tok (.inr ⟨41, txt rest, rfl, rfl, by decide, by decide⟩), (fun c h => by cases h), ⟨41, [], rfl, rfl⟩, tok_shut _, h⟩
theorem sc_it {b n : Bool} {j : Nat} {rest : List Pc} (hj : j < 8) (h : Sc rest) : Sc (itP b n (97 + j) ++ rest) := by
 cases n with
 | false => exact ⟨wB_blk b, ⟨120, [97 + j], rfl, rfl⟩, tok_x hj _, qM4 h⟩
 | true => exact ⟨wB_blk b, ⟨37, [110], rfl, rfl⟩, qIv (q := [110]) rfl not10_n trim_n (.inr ⟨_, rfl⟩), blk_10, ⟨120, [97 + j], rfl, rfl⟩, tok_x hj _, qM4 h⟩
theorem qM3 : ∀ (l : List (Bool × Bool)) (j : Nat), j + l.length ≤ 8 → Sc (moreP j l)
 | [], j, h => trivial
 | (b, n) :: r, j, h => by
  simp only [List.length_cons] at h
  exact ⟨(fun c h => by cases h), ⟨44, [], rfl, rfl⟩, qLu _, sc_it (by omega) (qM3 r (j + 1) (by omega))⟩
def itT (b n : Bool) (c : Nat) : List Nat := wB b ++ ((if n then [37, 110, 10] else []) ++ [120, c, 40, 49, 41])
theorem qBr : ∀ (a b : List Pc), txt (a ++ b) = txt a ++ txt b
 | [], b => rfl
 | p :: a, b => by simp [txt, qBr a b]
theorem qDd (b n : Bool) (c : Nat) : txt (itP b n c) = itT b n c := by cases b <;> cases n <;> rfl
theorem qFt (b n : Bool) (c : Nat) : (itT b n c).length ≤ 10 := by cases b <;> cases n <;> simp [itT, wB]
theorem qHt (b n : Bool) (c : Nat) : (itP b n c).length ≤ 5 := by cases n <;> simp [itP, callP]
theorem qDp : ∀ (l : List (Bool × Bool)) (j : Nat), (txt (moreP j l)).length ≤ 11 * l.length ∧ (moreP j l).length ≤ 6 * l.length
 | [], j => by simp [moreP, txt]
 | (b, n) :: r, j => by
  obtain ⟨h1, h2⟩ := qDp r (j + 1)
  have h3 := qFt b n (97 + j)
  have h4 := qHt b n (97 + j)
  simp only [moreP, txt, qBr, qDd, List.length_append, List.length_cons, List.length_nil]
  omega
theorem it_asc (b n : Bool) {j : Nat} (hj : j < 8) : ∀ c ∈ itT b n (97 + j), c < 128 := by
 intro c hc
 have : 97 + j < 128 := by omega
 cases b <;> cases n <;> simp [itT, wB] at hc <;> omega
theorem qJk : ∀ (l : List (Bool × Bool)) (j : Nat), j + l.length ≤ 8 → ∀ c ∈ txt (moreP j l), c < 128
 | [], j, h, c, hc => by simp [moreP, txt] at hc
 | (b, n) :: r, j, h, c, hc => by
  simp only [List.length_cons] at h
  simp only [moreP, txt, qBr, qDd, List.mem_append, List.mem_cons, List.not_mem_nil, or_false, false_or] at hc
  rcases hc with rfl | hc | hc
  ·decide
  ·exact it_asc b n (by omega) c hc
  ·exact qJk r (j + 1) (by omega) c hc
def allP (b n : Bool) (l : List (Bool × Bool)) : List Pc := itP b n 97 ++ moreP 1 l
def allN (b n : Bool) (l : List (Bool × Bool)) : List S28 := callN 97 false (nt n) :: moreN 1 l
theorem all_cons (b n : Bool) (l : List (Bool × Bool)) : ∃ p r, allP b n l = p :: r := by cases n <;> exact ⟨_, _, rfl⟩
theorem qOz {b n : Bool} {l : List (Bool × Bool)} (hl : l.length ≤ 7) : g13 400 (txt (allP b n l)) = some (tkp 0 (allP b n l), 0) := by
 obtain ⟨m1, m2⟩ := qDp l 1
 have h3 := qFt b n 97
 have h4 := qHt b n 97
 have hT : (txt (allP b n l)).length ≤ 87 := by simp only [allP, qBr, qDd, List.length_append]; omega
 have hP : (allP b n l).length ≤ 47 := by simp only [allP, List.length_append]; omega
 have hsc : Sc (allP b n l) := sc_it (j := 0) (by decide) (qM3 l 1 (by omega))
 have ha : ∀ c ∈ txt (allP b n l), c < 128 := by
  intro c hc
  simp only [allP, qBr, qDd, List.mem_append] at hc
  rcases hc with hc | hc
  ·exact it_asc b n (j := 0) (by decide) c hc
  ·exact qJk l 1 (by omega) c hc
 obtain ⟨p, r, e⟩ := all_cons b n l
 rw [e] at hsc hT ha hP ⊢
 exact scan_pc hsc (by omega) ha (by simp at hP; omega)
theorem qLm {b n : Bool} {l : List (Bool × Bool)} (hl : l.length ≤ 7) : g23 400 (txt (allP b n l)) (tkp 0 (allP b n l)) 0 ((tkp 0 (allP b n l)).length : Int) = some (bodN (allN b n l), ((tkp 0 (allP b n l)).length : Int), 0) := by
 obtain ⟨m1, m2⟩ := qDp l 1
 have h3 := qFt b n 97
 have h4 := qHt b n 97
 have hT : (txt (allP b n l)).length < 290 := by simp only [allP, qBr, qDd, List.length_append]; omega
 have hP : (allP b n l).length < 290 := by simp only [allP, List.length_append]; omega
 have hrun : (cpar 300 100).c6 (vwp true 0 (allP b n l)) = some (some (bodN (allN b n l), [])) := by
  show c6B 399 (cpar 300 99) _ = _
  unfold c6B
  have := bod_l l 0 0 399 b n true [] (by omega) (by simp; omega) (fun _ => rfl) (fun e => by cases e)
  exact this
 have := body_top (k := 300) (n := 100) (fun j => vw_pc hT hP (300 + j) (by omega)) hrun
 rw [this]
 unfold pos
 simp
theorem call_dec (c : Nat) (bl n : Bool) : d29 (e29 (callN c bl (nt n))) = some (callN c bl (nt n)) := by cases n <;> kernel_rfl
theorem nthR_at : ∀ (l : List S28) (i : Nat) (x : S28), l[i]? = some x → d29 (e29 x) = some x → nthR d29 7 l.length (l.flatMap e29) (i : Int) = some x := by
 intro l i x h hd
 have hi := (List.getElem?_eq_some_iff.1 h).1
 unfold nthR
 rw [if_pos ⟨by omega, by omega⟩, Int.toNat_natCast]
 have : ∀ (l : List S28) (i : Nat), l[i]? = some x → ((l.flatMap e29).drop (i * 7)).take 7 = e29 x := by
  intro l
  induction l with
  | nil => intro i h; simp at h
  | cons y l ih =>
   intro i h
   cases i with
   | zero =>
    simp only [List.getElem?_cons_zero, Option.some.injEq] at h
    subst h
    rfl
   | succ i =>
    rw [List.getElem?_cons_succ] at h
    rw [List.flatMap_cons, Nat.succ_mul, Nat.add_comm, ← List.drop_drop]
    rw [show (7 : Nat) = (e29 y).length from rfl, List.drop_left]
    exact ih i h
 rw [this l i h]
 exact hd
theorem qJj : ∀ (l : List (Bool × Bool)) (j i : Nat) (b n : Bool), l[i]? = some (b, n) → (moreN j l)[i]? = some (callN (97 + (j + i)) b (nt n))
 | [], j, i, b, n, h => by simp at h
 | (b0, n0) :: r, j, 0, b, n, h => by simp only [List.getElem?_cons_zero, Option.some.injEq] at h; cases h; rfl
 | (b0, n0) :: r, j, i + 1, b, n, h => by
  rw [List.getElem?_cons_succ] at h
  rw [qD7, List.getElem?_cons_succ, qJj r (j + 1) i b n h]
  rw [show j + 1 + i = j + (i + 1) by omega]
theorem qGt : ∀ (l : List (Bool × Bool)) (j : Nat), (moreN j l).length = l.length
 | [], j => rfl
 | (b, n) :: r, j => by rw [qD7]; simp [qGt r]
theorem all_get {b0 n0 : Bool} {l : List (Bool × Bool)} {i : Nat} {b n : Bool} (h : ((b0, n0) :: l)[i]? = some (b, n)) : (allN b0 n0 l)[i]? = some (callN (97 + i) (decide (0 < i) && b) (nt n)) := by
 cases i with
 | zero => simp only [List.getElem?_cons_zero, Option.some.injEq] at h; cases h; rfl
 | succ i =>
  rw [List.getElem?_cons_succ] at h
  unfold allN
  rw [List.getElem?_cons_succ, qJj l 1 i b n h, show 1 + i = i + 1 by omega]
  simp
theorem name_in (c : Nat) (bl n : Bool) : nthR d29 7 (callN c bl (nt n)).f2.n (callN c bl (nt n)).f2.cells 0 = some (litN [120, c]) := by kernel_rfl
theorem qJn {j : Nat} (hj : j < 8) : toS ([fW .u8 (97 + fW .u8 (j : Int))] : List Int) = some [97 + j] := by
 match j, hj with
 | 0, _ => rfl
 | 1, _ => rfl
 | 2, _ => rfl
 | 3, _ => rfl
 | 4, _ => rfl
 | 5, _ => rfl
 | 6, _ => rfl
 | 7, _ => rfl
end Go.Proofs.Ythpplbkobokghaa.Am
set_option maxRecDepth 100000
set_option linter.unusedVariables false
namespace Go.Proofs.Ythpplbkobokghaa.Am
noncomputable section
open Go
def Xg16 : Fx Bool := ⟨Try.prog, cx, Try.f16, fun r => .bool r, 0, fun _ => H0, cxTi, cxOrd, fun _ => none, false⟩
def g16c0 : List Nat := [97, 32, 43, 32, 98, 32, 42, 32, 99]
def g16c1 : List S33 := [(⟨(1 : Int), ([120] : List Nat), (0 : Int)⟩ : S33), (⟨(9 : Int), ([44] : List Nat), (1 : Int)⟩ : S33), (⟨(1 : Int), ([121] : List Nat), (4 : Int)⟩ : S33)]
def g16p2 : Pt := nav [0, 0, 0] (nav [0, 0, 0] (nav [0] (bodyAt Try.f16)))
def g16p3 : Pt := nav [0, 0, 0] g16p2
def g16p4 : Pt := nav [0, 0, 0] g16p3
def g16p5 : Pt := nav [0, 0, 0] g16p4
def g16p6 : Pt := nav [0, 0, 0] g16p5
def g16 (k : Nat)  : Option Bool :=
 (g13 k g16c0).bind fun x0_1 => (g14 k g16c0 x0_1.1 (0 : Int) (x0_1.1.length : Int) (0 : Int)).bind fun x1_4 => (g14 k g16c0 x0_1.1 (0 : Int) (2 : Int) (0 : Int)).bind fun x2_2 => (g23 k ([120, 44, 10, 10, 121] : List Nat) g16c1 (0 : Int) (3 : Int)).bind fun x3_4 => if (decide (x0_1.2 = 0)) then (if (decide (x1_4.2.2 = 0)) then (if (decide (x1_4.2.1 = 5)) then (if (decide (x1_4.1.f0 = 14)) then (if (eqL x1_4.1.f1 [43]) then (if (decide ((x1_4.1.f2.n : Int) = 2)) then ((nthR d29 7 x1_4.1.f2.n x1_4.1.f2.cells 1).bind fun x4_29 => if (eqL x4_29.f1 [42]) then (if (decide (x2_2.2.2 = 8)) then (if (decide (x3_4.2.2 = 0)) then (if (decide ((x3_4.1.f2.n : Int) = 2)) then ((nthR d29 7 x3_4.1.f2.n x3_4.1.f2.cells 1).bind fun x4_51 => some x4_51.f4) else (some false)) else (some false)) else (some false)) else (some false)) else (some false)) else (some false)) else (some false)) else (some false)) else (some false)) else (some false)
theorem g16_ok (k : Nat)  (r : Bool) (h : g16 k  = some r) : PureOk Try.prog 16 [] (.bool r) := by
 refine qA6 Xg16 (fun _ => ⟨rfl, rfl⟩) Try.func16 (by decide +kernel) (by kernel_rfl) (t := g16 k ) ?_ h
 unfold g16
 refine qA (eE := []) (by kernel_rfl) ?_
 refine oH 11 (atN 1 (ctl1 g16p2)) [(14, .str g16c0), (1, .str g16c0), (0, .bool false)] (mkH []) ?_
 refine oA (fun (x0_1 : ((List S33) × Int)) => .tuple [w34 x0_1.1, .i x0_1.2]) (atN 2 (ctl1 g16p2)) 15 [.str g16c0] (g13_ok k g16c0) fun x0_1 hx0_1 => ?_
 refine oR 12 (atN 4 (ctl1 g16p3)) [(22, .i (x0_1.1.length : Int)), (21, w34 x0_1.1), (20, w34 x0_1.1), (19, .str g16c0), (3, .i x0_1.2), (2, w34 x0_1.1), (17, .i x0_1.2), (16, w34 x0_1.1), (13, .tuple [w34 x0_1.1, .i x0_1.2]), (15, .tuple [w34 x0_1.1, .i x0_1.2]), (14, .str g16c0), (1, .str g16c0), (0, .bool false)] ?_
 refine oA (fun (x1_4 : (S28 × Int × Int)) => .tuple [n29 x1_4.1, .i x1_4.2.1, .i x1_4.2.2]) (atN 5 (ctl1 g16p3)) 23 [.str g16c0, w34 x0_1.1, .i 0, .i (x0_1.1.length : Int), .i 0] (g14_ok k g16c0 x0_1.1 (0 : Int) (x0_1.1.length : Int) (0 : Int)) fun x1_4 hx1_4 => ?_
 let E3 : Env := [(1, .str g16c0), (2, w34 x0_1.1), (3, .i x0_1.2), (4, .ptr 0 7 0), (5, .i x1_4.2.1), (6, .i x1_4.2.2)]
 refine oLH 10 g16p4 E3 (mkH [⟨e29 x1_4.1, 7, false⟩]) ?_
 refine oR 3 (atN 2 (ctl1 g16p4)) ((29, w34 x0_1.1) :: (28, .str g16c0) :: E3) ?_
 refine oA (fun (x2_2 : (S28 × Int × Int)) => .tuple [n29 x2_2.1, .i x2_2.2.1, .i x2_2.2.2]) (atN 3 (ctl1 g16p4)) 30 [.str g16c0, w34 x0_1.1, .i 0, .i 2, .i 0] (g14_ok k g16c0 x0_1.1 (0 : Int) (2 : Int) (0 : Int)) fun x2_2 hx2_2 => ?_
 let E5 : Env := [(3, .i x0_1.2), (4, .ptr 0 7 0), (5, .i x1_4.2.1), (6, .i x1_4.2.2), (9, .i x2_2.2.2)]
 refine oLH 10 g16p5 E5 (mkH [⟨e29 x1_4.1, 7, false⟩, ⟨e29 x2_2.1, 7, false⟩]) ?_
 refine oH 5 (atN 4 (ctl1 g16p5)) ((38, .slice 2 9 0 3 3) :: (37, .agg [.i 1, .str [121], .i 4]) :: (36, .agg [.i 9, .str [44], .i 1]) :: (35, .agg [.i 1, .str [120], .i 0]) :: E5) (mkH [⟨e29 x1_4.1, 7, false⟩, ⟨e29 x2_2.1, 7, false⟩, ⟨[.i 1, .str [120], .i 0, .i 9, .str [44], .i 1, .i 1, .str [121], .i 4], 0, false⟩]) ?_
 refine oZ 38 2 3 3 [.i 1, .str [120], .i 0, .i 9, .str [44], .i 1, .i 1, .str [121], .i 4] [3, 4, 5, 6, 9, 35, 36, 37] [] trivial ?_
 refine oE [(38, w34 g16c1), (3, .i x0_1.2), (4, .ptr 0 7 0), (5, .i x1_4.2.1), (6, .i x1_4.2.2), (9, .i x2_2.2.2), (35, .agg [.i 1, .str [120], .i 0]), (36, .agg [.i 9, .str [44], .i 1]), (37, .agg [.i 1, .str [121], .i 4])] ?_
 refine oHp (mkH [⟨e29 x1_4.1, 7, false⟩, ⟨e29 x2_2.1, 7, false⟩, ⟨[], 0, false⟩]) ?_
 refine oA (fun (x3_4 : (S28 × Int × Int)) => .tuple [n29 x3_4.1, .i x3_4.2.1, .i x3_4.2.2]) (atN 5 (ctl1 g16p5)) 39 [.str [120, 44, 10, 10, 121], w34 g16c1, .i 0, .i 3] (g23_ok k ([120, 44, 10, 10, 121] : List Nat) g16c1 (0 : Int) (3 : Int)) fun x3_4 hx3_4 => ?_
 let E7 : Env := [(3, .i x0_1.2), (4, .ptr 0 7 0), (5, .i x1_4.2.1), (6, .i x1_4.2.2), (9, .i x2_2.2.2), (10, .ptr 3 7 0), (12, .i x3_4.2.2)]
 let K1 : List Blk := [⟨e29 x1_4.1, 7, false⟩, ⟨e29 x2_2.1, 7, false⟩, ⟨[], 0, false⟩, ⟨e29 x3_4.1, 7, false⟩]
 refine oLH 10 g16p6 E7 (mkH K1) ?_
 refine oR 4 (atN 3 (ctl1 g16p6)) ((45, .bool (decide (x0_1.2 = 0))) :: (44, .bool (decide (x0_1.2 = 0))) :: (43, .i x0_1.2) :: E7) ?_
 refine oS 45 (fun hb => ?_) (fun hb => ?_)
 ·let E8 : Env := ((49, .bool (decide (x1_4.2.2 = 0))) :: (48, .bool (decide (x1_4.2.2 = 0))) :: (47, .bool (decide (x1_4.2.2 = 0))) :: (46, .i x1_4.2.2) :: (45, .bool true) :: (45, .bool (decide (x0_1.2 = 0))) :: (44, .bool (decide (x0_1.2 = 0))) :: (43, .i x0_1.2) :: E7)
  refine oR 4 (atN 7 (ctl1 g16p6)) E8 ?_
  refine oS 49 (fun hb => ?_) (fun hb => ?_)
  ·let E9 : Env := ((53, .bool (decide (x1_4.2.1 = 5))) :: (52, .bool (decide (x1_4.2.1 = 5))) :: (51, .bool (decide (x1_4.2.1 = 5))) :: (50, .i x1_4.2.1) :: (49, .bool true) :: E8)
   refine oR 4 (atN 11 (ctl1 g16p6)) E9 ?_
   refine oS 53 (fun hb => ?_) (fun hb => ?_)
   ·let E10 : Env := ((58, .bool (decide (x1_4.1.f0 = 14))) :: (57, .bool (decide (x1_4.1.f0 = 14))) :: (56, .bool (decide (x1_4.1.f0 = 14))) :: (55, .i x1_4.1.f0) :: (54, .ptr 0 7 0) :: (53, .bool true) :: E9)
    refine oR 5 (atN 16 (ctl1 g16p6)) E10 ?_
    refine oS 58 (fun hb => ?_) (fun hb => ?_)
    ·let E11 : Env := ((63, .bool (eqL x1_4.1.f1 [43])) :: (62, .bool (eqL x1_4.1.f1 [43])) :: (61, .bool (eqL x1_4.1.f1 [43])) :: (60, .str x1_4.1.f1) :: (59, .ptr 0 7 1) :: (58, .bool true) :: E10)
     refine oR 5 (atN 21 (ctl1 g16p6)) E11 ?_
     refine oS 63 (fun hb => ?_) (fun hb => ?_)
     ·let E12 : Env := ((69, .bool (decide ((x1_4.1.f2.n : Int) = 2))) :: (68, .bool (decide ((x1_4.1.f2.n : Int) = 2))) :: (67, .bool (decide ((x1_4.1.f2.n : Int) = 2))) :: (66, .i (x1_4.1.f2.n : Int)) :: (65, q29 x1_4.1.f2) :: (64, .ptr 0 7 2) :: (63, .bool true) :: E11)
      refine oR 6 (atN 27 (ctl1 g16p6)) E12 ?_
      refine oS 69 (fun hb => ?_) (fun hb => ?_)
      ·refine oR 2 (atN 29 (ctl1 g16p6)) ((71, q29 x1_4.1.f2) :: (70, .ptr 0 7 2) :: (69, .bool true) :: E12) ?_
       refine qHp (fun (x4_29 : S28) => (.vptr [.i x4_29.f0, .str x4_29.f1, q29 x4_29.f2, .bool x4_29.f3, .bool x4_29.f4, w9 x4_29.f5, w9 x4_29.f6], (mkH K1))) (atN 30 (ctl1 g16p6)) (fun x4_29 => ((72, .vptr [.i x4_29.f0, .str x4_29.f1, q29 x4_29.f2, .bool x4_29.f3, .bool x4_29.f4, w9 x4_29.f5, w9 x4_29.f6]) :: (71, q29 x1_4.1.f2) :: (70, .ptr 0 7 2) :: (69, .bool true) :: E12)) (fun _ hx => vidxR (sz := 7) qDf hx (by kernel_rfl)) (fun _ => by kernel_rfl) (fun x4_29 hx4_29 => ?_)
       let E13 : Env := ((77, .bool (eqL x4_29.f1 [42])) :: (76, .bool (eqL x4_29.f1 [42])) :: (75, .bool (eqL x4_29.f1 [42])) :: (74, .str x4_29.f1) :: (73, .vptr [.str x4_29.f1, q29 x4_29.f2, .bool x4_29.f3, .bool x4_29.f4, w9 x4_29.f5, w9 x4_29.f6]) :: (72, .vptr [.i x4_29.f0, .str x4_29.f1, q29 x4_29.f2, .bool x4_29.f3, .bool x4_29.f4, w9 x4_29.f5, w9 x4_29.f6]) :: (71, q29 x1_4.1.f2) :: (70, .ptr 0 7 2) :: (69, .bool true) :: E12)
       refine oH 5 (atN 35 (ctl1 g16p6)) E13 (mkH K1) ?_
       refine oS 77 (fun hb => ?_) (fun hb => ?_)
       ·let E14 : Env := ((81, .bool (decide (x2_2.2.2 = 8))) :: (80, .bool (decide (x2_2.2.2 = 8))) :: (79, .bool (decide (x2_2.2.2 = 8))) :: (78, .i x2_2.2.2) :: (77, .bool true) :: E13)
        refine oR 4 (atN 39 (ctl1 g16p6)) E14 ?_
        refine oS 81 (fun hb => ?_) (fun hb => ?_)
        ·let E15 : Env := ((85, .bool (decide (x3_4.2.2 = 0))) :: (84, .bool (decide (x3_4.2.2 = 0))) :: (83, .bool (decide (x3_4.2.2 = 0))) :: (82, .i x3_4.2.2) :: (81, .bool true) :: E14)
         refine oR 4 (atN 43 (ctl1 g16p6)) E15 ?_
         refine oS 85 (fun hb => ?_) (fun hb => ?_)
         ·let E16 : Env := ((91, .bool (decide ((x3_4.1.f2.n : Int) = 2))) :: (90, .bool (decide ((x3_4.1.f2.n : Int) = 2))) :: (89, .bool (decide ((x3_4.1.f2.n : Int) = 2))) :: (88, .i (x3_4.1.f2.n : Int)) :: (87, q29 x3_4.1.f2) :: (86, .ptr 3 7 2) :: (85, .bool true) :: E15)
          refine oR 6 (atN 49 (ctl1 g16p6)) E16 ?_
          refine oS 91 (fun hb => ?_) (fun hb => ?_)
          ·refine oR 2 (atN 51 (ctl1 g16p6)) ((93, q29 x3_4.1.f2) :: (92, .ptr 3 7 2) :: (91, .bool true) :: E16) ?_
           refine qHp (fun (x4_51 : S28) => (.vptr [.i x4_51.f0, .str x4_51.f1, q29 x4_51.f2, .bool x4_51.f3, .bool x4_51.f4, w9 x4_51.f5, w9 x4_51.f6], (mkH K1))) (atN 52 (ctl1 g16p6)) (fun x4_51 => ((94, .vptr [.i x4_51.f0, .str x4_51.f1, q29 x4_51.f2, .bool x4_51.f3, .bool x4_51.f4, w9 x4_51.f5, w9 x4_51.f6]) :: (93, q29 x3_4.1.f2) :: (92, .ptr 3 7 2) :: (91, .bool true) :: E16)) (fun _ hx => vidxR (sz := 7) qDf hx (by kernel_rfl)) (fun _ => by kernel_rfl) (fun x4_51 hx4_51 => ?_)
           exact oQ 6
          ·exact oQ 9
         ·exact oQ 15
        ·exact oQ 19
       ·exact oQ 23
      ·exact oQ 31
     ·exact oQ 37
    ·exact oQ 42
   ·exact oQ 47
  ·exact oQ 51
 ·exact oQ 55
def Xg11 : Fx Bool := ⟨Try.prog, cx, Try.f11, fun r => .bool r, 0, fun _ => H0, cxTi, cxOrd, fun _ => none, false⟩
def g11p1 : Pt := nav [0, 0, 0, 0] (nav [0] (bodyAt Try.f11))
def g11p2 : Pt := nav [0, 0] g11p1
def g11p3 : Pt := nav [1, 0] g11p2
def g11p7 : Pt := nav [0, 0, 0, 0] (nav [0, 0, 0, 0] (nav [2, 0, 0] g11p2))
def g11p9 : Pt := nav [0, 0] (nav [0, 0, 0] g11p7)
def g11p11 : Pt := nav [2, 0, 0] g11p9
def g11p12 : Pt := nav [0, 0] (nav [1, 0, 0, 0, 0, 0] g11p9)
def g11p13 : Pt := nav [0, 0, 0] g11p11
def g11p14 : Pt := nav [1] g11p12
def g11p15 : Pt := nav [2, 0, 0, 0] g11p12
def g11p16 : Pt := nav [0, 0, 0, 0] g11p13
def g11p17 : Pt := nav [0, 0] g11p15
def g11p18 : Pt := nav [0, 0] g11p16
def g11p19 : Pt := nav [1] g11p17
def g11p20 : Pt := nav [2, 0, 0, 0] g11p17
def g11p23 : Pt := nav [0, 0] g11p20
def g11p24 : Pt := nav [0, 0, 0, 0] (nav [2, 0, 0, 0] g11p18)
def g11p25 : Pt := nav [1] g11p23
def g11p26 : Pt := nav [2, 0] g11p23
def g11p29 : Pt := nav [0, 0] (nav [0, 0, 0] g11p24)
def g11p30 : Pt := nav [1, 0, 0, 0, 0] g11p29
def g11p31 : Pt := nav [2, 0, 0] g11p29
def g11p32 : Pt := nav [0, 0, 0] g11p30
def g11d0 : DP := ⟨[], [(0, 0, 0), (1, 0, 0), (3, 0, 0), (7, 0, 0), (15, 0, 0), (31, 0, 1), (63, 0, 0), (127, 0, 0), (255, 0, 1), (15, 0, 0), (527, 0, 0), (1551, 0, 0), (3599, 0, 0), (7695, 1, 1), (15887, 0, 0), (32767, 0, 0), (65535, 0, 0), (131071, 0, 0), (262143, 0, 0), (524287, 1, 1), (262143, 0, 0), (262143, 0, 0), (3407871, 0, 0), (7602175, 1, 1), (15990783, 0, 0), (32767999, 0, 0), (66322431, 0, 0), (133431295, 0, 0), (268435455, 0, 0), (536870911, 0, 0), (1073741823, 0, 0), (2147483647, 0, 0), (4294967295, 1, 1), (8589934591, 0, 0), (17179869183, 0, 0), (2147483647, 0, 0), (2147483647, 0, 0), (105226698751, 0, 0), (242665652223, 1, 1), (549755813887, 0, 0), (1099511627775, 0, 0)], 41, thrown, [], H0⟩
def qG0 (k : Nat)  (a0 : (List Bool)) (a1 : (List Bool)) (x2_4 : (S28 × Int × Int)) (ih : Int → Option Bool) : Int → Option Bool :=
 fun (y18_0 : Int) => if (decide (y18_0 < (a0.length : Int))) then ((nthR d29 7 x2_4.1.f2.n x2_4.1.f2.cells y18_0).bind fun x9_3 => jn (fun (z19 : Bool × Int) => if z19.1 then (some false) else (ih (fW .i64 (z19.2 + 1)))) (fun j19 => if (!decide (x9_3.f0 = 2)) then (j19 (true, y18_0)) else ((nthR d29 7 x9_3.f2.n x9_3.f2.cells 0).bind fun x10_6 => (toS ([fW .u8 (97 + fW .u8 y18_0)] : List Int)).bind fun x10_13 => (catS ([120] : List Nat) x10_13).bind fun x10_14 => if (!(eqL x10_6.f1 x10_14)) then (j19 (true, y18_0)) else ((nthL a0 y18_0).bind fun x10_22 => if x10_22 then (if (!(x9_3.f4 == decide (0 < y18_0))) then (j19 (true, y18_0)) else ((nthL a1 y18_0).bind fun x10_37 => j19 (!(decide ((x9_3.f5.length : Int) = 1) == x10_37), y18_0))) else (if (!(x9_3.f4 == false)) then (j19 (true, y18_0)) else ((nthL a1 y18_0).bind fun x10_37 => j19 (!(decide ((x9_3.f5.length : Int) = 1) == x10_37), y18_0))))))) else ((g16 k).bind fun x11_0 => some x11_0)
def qC6 (k : Nat)  (a0 : (List Bool)) (a1 : (List Bool)) (x2_4 : (S28 × Int × Int)) (n : Nat) : Int → Option Bool := lp (fun _ => none) (qG0 k a0 a1 x2_4) n
theorem qOk (k : Nat)  (a0 : (List Bool)) (a1 : (List Bool)) (x2_4 : (S28 × Int × Int)) (n : Nat) (y18_0 : Int) : qC6 k a0 a1 x2_4 (n + 1) y18_0 = (if (decide (y18_0 < (a0.length : Int))) then ((nthR d29 7 x2_4.1.f2.n x2_4.1.f2.cells y18_0).bind fun x9_3 => jn (fun (z19 : Bool × Int) => if z19.1 then (some false) else ((qC6 k a0 a1 x2_4 n) (fW .i64 (z19.2 + 1)))) (fun j19 => if (!decide (x9_3.f0 = 2)) then (j19 (true, y18_0)) else ((nthR d29 7 x9_3.f2.n x9_3.f2.cells 0).bind fun x10_6 => (toS ([fW .u8 (97 + fW .u8 y18_0)] : List Int)).bind fun x10_13 => (catS ([120] : List Nat) x10_13).bind fun x10_14 => if (!(eqL x10_6.f1 x10_14)) then (j19 (true, y18_0)) else ((nthL a0 y18_0).bind fun x10_22 => if x10_22 then (if (!(x9_3.f4 == decide (0 < y18_0))) then (j19 (true, y18_0)) else ((nthL a1 y18_0).bind fun x10_37 => j19 (!(decide ((x9_3.f5.length : Int) = 1) == x10_37), y18_0))) else (if (!(x9_3.f4 == false)) then (j19 (true, y18_0)) else ((nthL a1 y18_0).bind fun x10_37 => j19 (!(decide ((x9_3.f5.length : Int) = 1) == x10_37), y18_0))))))) else ((g16 k).bind fun x11_0 => some x11_0)) := rfl
theorem qLe (k : Nat)   (a0 : (List Bool)) (a1 : (List Bool)) (x2_4 : (S28 × Int × Int))  : ∀ (n : Nat) (y18_0 : Int), Ok Xg11 g11p24 [(0, w4 a0), (1, w4 a1), (9, .ptr 0 7 0), (12, .i y18_0)] (mkH [⟨[.i x2_4.1.f0, .str x2_4.1.f1, q29 x2_4.1.f2, .bool x2_4.1.f3, .bool x2_4.1.f4, w9 x2_4.1.f5, w9 x2_4.1.f6], 7, false⟩]) (qC6 k a0 a1 x2_4 n y18_0) := by
 intro n
 induction n with
 | zero => intro y18_0; exact ok_none
 | succ n ih =>
  intro y18_0
  show Ok _ _ _ _ (qG0 k a0 a1 x2_4 (qC6 k a0 a1 x2_4 n) y18_0)
  unfold qG0
  refine qAg (p' := nav [0] g11p24) (by kernel_rfl) ?_
  let E26 : Env := [(103, .bool (decide (y18_0 < (a0.length : Int)))), (102, .i (a0.length : Int)), (101, w4 a0), (100, .i y18_0), (0, w4 a0), (1, w4 a1), (9, .ptr 0 7 0), (12, .i y18_0)]
  refine oH 8 g11p29 E26 (mkH [⟨e29 x2_4.1, 7, false⟩]) ?_
  refine oS 103 (fun hb => ?_) (fun hb => ?_)
  ·refine oR 9 (atN 3 (ctl1 g11p30)) ((108, .i y18_0) :: (107, q29 x2_4.1.f2) :: (106, .ptr 0 7 2) :: (103, .bool true) :: E26) ?_
   refine qHp (fun (x9_3 : S28) => (.vptr [.i x9_3.f0, .str x9_3.f1, q29 x9_3.f2, .bool x9_3.f3, .bool x9_3.f4, w9 x9_3.f5, w9 x9_3.f6], (mkH [⟨e29 x2_4.1, 7, false⟩]))) (atN 4 (ctl1 g11p30)) (fun x9_3 => ((109, .vptr [.i x9_3.f0, .str x9_3.f1, q29 x9_3.f2, .bool x9_3.f3, .bool x9_3.f4, w9 x9_3.f5, w9 x9_3.f6]) :: (108, .i y18_0) :: (107, q29 x2_4.1.f2) :: (106, .ptr 0 7 2) :: (103, .bool true) :: E26)) (fun _ hx => vidxR (sz := 7) qDf hx (by kernel_rfl)) (fun _ => by kernel_rfl) (fun x9_3 hx9_3 => ?_)
   refine oLH 5 g11p32 [(0, w4 a0), (1, w4 a1), (9, .ptr 0 7 0), (12, .i y18_0), (13, .ptr 1 7 0)] (mkH [⟨e29 x2_4.1, 7, false⟩, ⟨e29 x9_3, 7, false⟩]) ?_
   refine oJ (nav [0] g11p32) (fun (z19 : Bool × Int) => [(0, w4 a0), (1, w4 a1), (9, .ptr 0 7 0), (12, .i z19.2), (151, .bool z19.1)]) (fun (z19 : Bool × Int) => (mkH [⟨e29 x2_4.1, 7, false⟩])) (fun z19 => ?_) (fun j19 hj19 => ?_)
   ·refine oS 151 (fun hb => ?_) (fun hb => ?_)
    ·exact oQ 6
    ·refine oLH 7 g11p24 [(0, w4 a0), (1, w4 a1), (9, .ptr 0 7 0), (12, .i (fW .i64 (z19.2 + 1)))] (mkH [⟨e29 x2_4.1, 7, false⟩]) ?_
     exact ih (fW .i64 (z19.2 + 1))
   ·refine qCv (fun hb11 => ?_) (fun hb11 => ?_)
    ·let E32 : Env := [(114, .bool (!decide (x9_3.f0 = 2))), (113, .bool (!decide (x9_3.f0 = 2))), (112, .i x9_3.f0), (111, .ptr 1 7 0), (0, w4 a0), (1, w4 a1), (9, .ptr 0 7 0), (12, .i y18_0), (13, .ptr 1 7 0)]
     let E33 : Env := [(151, .bool true), (150, .tuple []), (149, .tuple []), (148, .tuple []), (147, .tuple []), (146, .tuple []), (145, .tuple []), (144, .tuple []), (143, .tuple []), (142, .tuple []), (141, .bool true), (140, .bool true), (139, .tuple []), (138, .tuple []), (137, .tuple []), (136, .tuple []), (135, .tuple []), (134, .tuple []), (133, .tuple []), (132, .tuple []), (131, .tuple []), (130, .tuple []), (129, .tuple []), (128, .bool true), (127, .bool true), (126, .tuple []), (125, .tuple []), (124, .tuple []), (123, .tuple []), (122, .tuple []), (121, .tuple []), (120, .tuple []), (119, .tuple []), (118, .tuple []), (117, .tuple []), (116, .tuple []), (115, .tuple []), (114, .bool true), (113, .bool true), (112, .i x9_3.f0), (111, .ptr 1 7 0), (0, w4 a0), (1, w4 a1), (9, .ptr 0 7 0), (12, .i y18_0), (13, .ptr 1 7 0)]
     refine oD (H' := (mkH [⟨e29 x2_4.1, 7, false⟩, ⟨e29 x9_3, 7, false⟩])) (nav [0] g11p32) E33 [(mkH [⟨e29 x2_4.1, 7, false⟩, ⟨e29 x9_3, 7, false⟩])] g11d0 (oDr 4 4 E32 (oDe (fun z => [(114, .bool z), (113, .bool z), (112, .i x9_3.f0), (111, .ptr 1 7 0), (0, w4 a0), (1, w4 a1), (9, .ptr 0 7 0), (12, .i y18_0), (13, .ptr 1 7 0)]) hb11 (oDh 37 41 E33 (mkH [⟨e29 x2_4.1, 7, false⟩, ⟨e29 x9_3, 7, false⟩]) [(mkH [⟨e29 x2_4.1, 7, false⟩, ⟨e29 x9_3, 7, false⟩])] .nil))) ?_
     refine oK [0, 1, 9, 12, 151] [(0, w4 a0), (1, w4 a1), (9, .ptr 0 7 0), (12, .i y18_0), (151, .bool true)] ?_
     refine qAa [⟨e29 x2_4.1, 7, false⟩] [⟨e29 x9_3, 7, false⟩] (by kernel_rfl) rfl (by kernel_rfl) ⟨(by kernel_rfl), trivial⟩ ?_
     exact hj19 (true, y18_0)
    ·refine qA8 (fun x10_6 hx10_6 => ?_)
     refine qA8 (fun x10_13 hx10_13 => ?_)
     refine qA8 (fun x10_14 hx10_14 => ?_)
     refine qCv (fun hb12 => ?_) (fun hb12 => ?_)
     ·let E32 : Env := [(114, .bool (!decide (x9_3.f0 = 2))), (113, .bool (!decide (x9_3.f0 = 2))), (112, .i x9_3.f0), (111, .ptr 1 7 0), (0, w4 a0), (1, w4 a1), (9, .ptr 0 7 0), (12, .i y18_0), (13, .ptr 1 7 0)]
      let E35 : Env := [(116, q29 x9_3.f2), (115, .ptr 1 7 2), (114, .bool false), (113, .bool false), (112, .i x9_3.f0), (111, .ptr 1 7 0), (0, w4 a0), (1, w4 a1), (9, .ptr 0 7 0), (12, .i y18_0), (13, .ptr 1 7 0)]
      let E36 : Env := ((123, .slice 2 1 0 1 1) :: (122, .y (fW .u8 (97 + fW .u8 y18_0))) :: (121, .y (fW .u8 y18_0)) :: (120, .i y18_0) :: (119, .str x10_6.f1) :: (118, .vptr [.str x10_6.f1, q29 x10_6.f2, .bool x10_6.f3, .bool x10_6.f4, w9 x10_6.f5, w9 x10_6.f6]) :: (117, .vptr [.i x10_6.f0, .str x10_6.f1, q29 x10_6.f2, .bool x10_6.f3, .bool x10_6.f4, w9 x10_6.f5, w9 x10_6.f6]) :: E35)
      let E37 : Env := ((128, .bool (!(eqL x10_6.f1 x10_14))) :: (127, .bool (!(eqL x10_6.f1 x10_14))) :: (126, .bool (!(eqL x10_6.f1 x10_14))) :: (125, .str x10_14) :: (124, .str x10_13) :: E36)
      let E38 : Env := [(151, .bool true), (150, .tuple []), (149, .tuple []), (148, .tuple []), (147, .tuple []), (146, .tuple []), (145, .tuple []), (144, .tuple []), (143, .tuple []), (142, .tuple []), (141, .bool true), (140, .bool true), (139, .tuple []), (138, .tuple []), (137, .tuple []), (136, .tuple []), (135, .tuple []), (134, .tuple []), (133, .tuple []), (132, .tuple []), (131, .tuple []), (130, .tuple []), (129, .tuple []), (128, .bool true), (127, .bool true), (126, .bool true), (125, .str x10_14), (124, .str x10_13), (123, .slice 2 1 0 1 1), (122, .y (fW .u8 (97 + fW .u8 y18_0))), (121, .y (fW .u8 y18_0)), (120, .i y18_0), (119, .str x10_6.f1), (118, .vptr [.str x10_6.f1, q29 x10_6.f2, .bool x10_6.f3, .bool x10_6.f4, w9 x10_6.f5, w9 x10_6.f6]), (117, .vptr [.i x10_6.f0, .str x10_6.f1, q29 x10_6.f2, .bool x10_6.f3, .bool x10_6.f4, w9 x10_6.f5, w9 x10_6.f6]), (116, q29 x9_3.f2), (115, .ptr 1 7 2), (114, .bool false), (113, .bool false), (112, .i x9_3.f0), (111, .ptr 1 7 0), (0, w4 a0), (1, w4 a1), (9, .ptr 0 7 0), (12, .i y18_0), (13, .ptr 1 7 0)]
      let K1 : List Blk := [⟨e29 x2_4.1, 7, false⟩, ⟨e29 x9_3, 7, false⟩, ⟨[.y (fW .u8 (97 + fW .u8 y18_0))], 0, false⟩]
      refine oD (H' := (mkH K1)) (nav [0] g11p32) E38 [(mkH K1)] g11d0 (oDr 4 4 E32 (oDe (fun z => [(114, .bool z), (113, .bool z), (112, .i x9_3.f0), (111, .ptr 1 7 0), (0, w4 a0), (1, w4 a1), (9, .ptr 0 7 0), (12, .i y18_0), (13, .ptr 1 7 0)]) hb11 (oDr 2 6 E35 (qC1 (l' := (opsAt g11p32).toList.drop 7) (eE := ((117, .vptr [.i x10_6.f0, .str x10_6.f1, q29 x10_6.f2, .bool x10_6.f3, .bool x10_6.f4, w9 x10_6.f5, w9 x10_6.f6]) :: E35)) (hs := []) (x := x10_6) (fun (x10_6 : S28) => (.vptr [.i x10_6.f0, .str x10_6.f1, q29 x10_6.f2, .bool x10_6.f3, .bool x10_6.f4, w9 x10_6.f5, w9 x10_6.f6], (mkH [⟨e29 x2_4.1, 7, false⟩, ⟨e29 x9_3, 7, false⟩]))) (vidxR (sz := 7) qDf hx10_6 (by kernel_rfl)) (by kernel_rfl) (oDh 6 13 E36 (mkH K1) [(mkH K1)] (qA4 (l' := (opsAt g11p32).toList.drop 14) (eE := ((124, .str x10_13) :: E36)) (hs := []) (x := x10_13) (fun (x10_13 : (List Nat)) => (.str x10_13, (mkH K1))) (toSE [fW .u8 (97 + fW .u8 y18_0)] (by kernel_rfl)) hx10_13 (by kernel_rfl) (qA4 (l' := (opsAt g11p32).toList.drop 15) (eE := ((125, .str x10_14) :: (124, .str x10_13) :: E36)) (hs := []) (x := x10_14) (fun (x10_14 : (List Nat)) => (.str x10_14, (mkH K1))) (catH (by kernel_rfl)) hx10_14 (by kernel_rfl) (oDr 3 18 E37 (oDe (fun z => [(128, .bool z), (127, .bool z), (126, .bool z), (125, .str x10_14), (124, .str x10_13), (123, .slice 2 1 0 1 1), (122, .y (fW .u8 (97 + fW .u8 y18_0))), (121, .y (fW .u8 y18_0)), (120, .i y18_0), (119, .str x10_6.f1), (118, .vptr [.str x10_6.f1, q29 x10_6.f2, .bool x10_6.f3, .bool x10_6.f4, w9 x10_6.f5, w9 x10_6.f6]), (117, .vptr [.i x10_6.f0, .str x10_6.f1, q29 x10_6.f2, .bool x10_6.f3, .bool x10_6.f4, w9 x10_6.f5, w9 x10_6.f6]), (116, q29 x9_3.f2), (115, .ptr 1 7 2), (114, .bool false), (113, .bool false), (112, .i x9_3.f0), (111, .ptr 1 7 0), (0, w4 a0), (1, w4 a1), (9, .ptr 0 7 0), (12, .i y18_0), (13, .ptr 1 7 0)]) hb12 (oDr 23 41 E38 .nil)))))))))) ?_
      refine oZ 123 2 1 1 [.y (fW .u8 (97 + fW .u8 y18_0))] [0, 1, 9, 12, 115, 116, 117, 118, 119, 120, 121, 122, 124, 125, 126, 129, 130, 131, 132, 133, 134, 135, 136, 137, 138, 139, 142, 143, 144, 145, 146, 147, 148, 149, 150, 151] [] trivial ?_
      refine oE [(123, w5 ([fW .u8 (97 + fW .u8 y18_0)] : List Int)), (0, w4 a0), (1, w4 a1), (9, .ptr 0 7 0), (12, .i y18_0), (115, .ptr 1 7 2), (116, q29 x9_3.f2), (117, .vptr [.i x10_6.f0, .str x10_6.f1, q29 x10_6.f2, .bool x10_6.f3, .bool x10_6.f4, w9 x10_6.f5, w9 x10_6.f6]), (118, .vptr [.str x10_6.f1, q29 x10_6.f2, .bool x10_6.f3, .bool x10_6.f4, w9 x10_6.f5, w9 x10_6.f6]), (119, .str x10_6.f1), (120, .i y18_0), (121, .y (fW .u8 y18_0)), (122, .y (fW .u8 (97 + fW .u8 y18_0))), (124, .str x10_13), (125, .str x10_14), (126, .bool true), (129, .tuple []), (130, .tuple []), (131, .tuple []), (132, .tuple []), (133, .tuple []), (134, .tuple []), (135, .tuple []), (136, .tuple []), (137, .tuple []), (138, .tuple []), (139, .tuple []), (142, .tuple []), (143, .tuple []), (144, .tuple []), (145, .tuple []), (146, .tuple []), (147, .tuple []), (148, .tuple []), (149, .tuple []), (150, .tuple []), (151, .bool true)] ?_
      refine oHp (mkH [⟨e29 x2_4.1, 7, false⟩, ⟨e29 x9_3, 7, false⟩, ⟨[], 0, false⟩]) ?_
      refine oK [0, 1, 9, 12, 151] [(0, w4 a0), (1, w4 a1), (9, .ptr 0 7 0), (12, .i y18_0), (151, .bool true)] ?_
      refine qAa [⟨e29 x2_4.1, 7, false⟩] [⟨e29 x9_3, 7, false⟩, ⟨[], 0, false⟩] (by kernel_rfl) rfl (by kernel_rfl) ⟨(by kernel_rfl), trivial⟩ ?_
      exact hj19 (true, y18_0)
     ·refine qA8 (fun x10_22 hx10_22 => ?_)
      refine qCv (fun hb13 => ?_) (fun hb13 => ?_)
      ·refine qCv (fun hb14 => ?_) (fun hb14 => ?_)
       ·let E32 : Env := [(114, .bool (!decide (x9_3.f0 = 2))), (113, .bool (!decide (x9_3.f0 = 2))), (112, .i x9_3.f0), (111, .ptr 1 7 0), (0, w4 a0), (1, w4 a1), (9, .ptr 0 7 0), (12, .i y18_0), (13, .ptr 1 7 0)]
        let E35 : Env := [(116, q29 x9_3.f2), (115, .ptr 1 7 2), (114, .bool false), (113, .bool false), (112, .i x9_3.f0), (111, .ptr 1 7 0), (0, w4 a0), (1, w4 a1), (9, .ptr 0 7 0), (12, .i y18_0), (13, .ptr 1 7 0)]
        let E36 : Env := ((123, .slice 2 1 0 1 1) :: (122, .y (fW .u8 (97 + fW .u8 y18_0))) :: (121, .y (fW .u8 y18_0)) :: (120, .i y18_0) :: (119, .str x10_6.f1) :: (118, .vptr [.str x10_6.f1, q29 x10_6.f2, .bool x10_6.f3, .bool x10_6.f4, w9 x10_6.f5, w9 x10_6.f6]) :: (117, .vptr [.i x10_6.f0, .str x10_6.f1, q29 x10_6.f2, .bool x10_6.f3, .bool x10_6.f4, w9 x10_6.f5, w9 x10_6.f6]) :: E35)
        let E37 : Env := ((128, .bool (!(eqL x10_6.f1 x10_14))) :: (127, .bool (!(eqL x10_6.f1 x10_14))) :: (126, .bool (!(eqL x10_6.f1 x10_14))) :: (125, .str x10_14) :: (124, .str x10_13) :: E36)
        let E40 : Env := [(132, .i y18_0), (131, w4 a0), (130, .bool x9_3.f4), (129, .ptr 1 7 4), (128, .bool false), (127, .bool false), (126, .bool false), (125, .str x10_14), (124, .str x10_13), (123, .slice 2 1 0 1 1), (122, .y (fW .u8 (97 + fW .u8 y18_0))), (121, .y (fW .u8 y18_0)), (120, .i y18_0), (119, .str x10_6.f1), (118, .vptr [.str x10_6.f1, q29 x10_6.f2, .bool x10_6.f3, .bool x10_6.f4, w9 x10_6.f5, w9 x10_6.f6]), (117, .vptr [.i x10_6.f0, .str x10_6.f1, q29 x10_6.f2, .bool x10_6.f3, .bool x10_6.f4, w9 x10_6.f5, w9 x10_6.f6]), (116, q29 x9_3.f2), (115, .ptr 1 7 2), (114, .bool false), (113, .bool false), (112, .i x9_3.f0), (111, .ptr 1 7 0), (0, w4 a0), (1, w4 a1), (9, .ptr 0 7 0), (12, .i y18_0), (13, .ptr 1 7 0)]
        let E41 : Env := ((141, .bool (!(x9_3.f4 == decide (0 < y18_0)))) :: (140, .bool (!(x9_3.f4 == decide (0 < y18_0)))) :: (139, .bool (!(x9_3.f4 == decide (0 < y18_0)))) :: (138, .bool (decide (0 < y18_0))) :: (137, .bool (decide (0 < y18_0))) :: (136, .i y18_0) :: (135, .bool true) :: (134, .bool true) :: (133, .vptr [.bool x10_22]) :: E40)
        let E42 : Env := [(151, .bool true), (150, .tuple []), (149, .tuple []), (148, .tuple []), (147, .tuple []), (146, .tuple []), (145, .tuple []), (144, .tuple []), (143, .tuple []), (142, .tuple []), (141, .bool true), (140, .bool true), (139, .bool true), (138, .bool (decide (0 < y18_0))), (137, .bool (decide (0 < y18_0))), (136, .i y18_0), (135, .bool true), (134, .bool true), (133, .vptr [.bool x10_22]), (132, .i y18_0), (131, w4 a0), (130, .bool x9_3.f4), (129, .ptr 1 7 4), (128, .bool false), (127, .bool false), (126, .bool false), (125, .str x10_14), (124, .str x10_13), (123, .slice 2 1 0 1 1), (122, .y (fW .u8 (97 + fW .u8 y18_0))), (121, .y (fW .u8 y18_0)), (120, .i y18_0), (119, .str x10_6.f1), (118, .vptr [.str x10_6.f1, q29 x10_6.f2, .bool x10_6.f3, .bool x10_6.f4, w9 x10_6.f5, w9 x10_6.f6]), (117, .vptr [.i x10_6.f0, .str x10_6.f1, q29 x10_6.f2, .bool x10_6.f3, .bool x10_6.f4, w9 x10_6.f5, w9 x10_6.f6]), (116, q29 x9_3.f2), (115, .ptr 1 7 2), (114, .bool false), (113, .bool false), (112, .i x9_3.f0), (111, .ptr 1 7 0), (0, w4 a0), (1, w4 a1), (9, .ptr 0 7 0), (12, .i y18_0), (13, .ptr 1 7 0)]
        let K2 : List Blk := [⟨e29 x2_4.1, 7, false⟩, ⟨e29 x9_3, 7, false⟩, ⟨[.y (fW .u8 (97 + fW .u8 y18_0))], 0, false⟩]
        refine oD (H' := (mkH K2)) (nav [0] g11p32) E42 [(mkH K2)] g11d0 (oDr 4 4 E32 (oDe (fun z => [(114, .bool z), (113, .bool z), (112, .i x9_3.f0), (111, .ptr 1 7 0), (0, w4 a0), (1, w4 a1), (9, .ptr 0 7 0), (12, .i y18_0), (13, .ptr 1 7 0)]) hb11 (oDr 2 6 E35 (qC1 (l' := (opsAt g11p32).toList.drop 7) (eE := ((117, .vptr [.i x10_6.f0, .str x10_6.f1, q29 x10_6.f2, .bool x10_6.f3, .bool x10_6.f4, w9 x10_6.f5, w9 x10_6.f6]) :: E35)) (hs := []) (x := x10_6) (fun (x10_6 : S28) => (.vptr [.i x10_6.f0, .str x10_6.f1, q29 x10_6.f2, .bool x10_6.f3, .bool x10_6.f4, w9 x10_6.f5, w9 x10_6.f6], (mkH [⟨e29 x2_4.1, 7, false⟩, ⟨e29 x9_3, 7, false⟩]))) (vidxR (sz := 7) qDf hx10_6 (by kernel_rfl)) (by kernel_rfl) (oDh 6 13 E36 (mkH K2) [(mkH K2)] (qA4 (l' := (opsAt g11p32).toList.drop 14) (eE := ((124, .str x10_13) :: E36)) (hs := []) (x := x10_13) (fun (x10_13 : (List Nat)) => (.str x10_13, (mkH K2))) (toSE [fW .u8 (97 + fW .u8 y18_0)] (by kernel_rfl)) hx10_13 (by kernel_rfl) (qA4 (l' := (opsAt g11p32).toList.drop 15) (eE := ((125, .str x10_14) :: (124, .str x10_13) :: E36)) (hs := []) (x := x10_14) (fun (x10_14 : (List Nat)) => (.str x10_14, (mkH K2))) (catH (by kernel_rfl)) hx10_14 (by kernel_rfl) (oDr 3 18 E37 (oDe (fun z => [(128, .bool z), (127, .bool z), (126, .bool z), (125, .str x10_14), (124, .str x10_13), (123, .slice 2 1 0 1 1), (122, .y (fW .u8 (97 + fW .u8 y18_0))), (121, .y (fW .u8 y18_0)), (120, .i y18_0), (119, .str x10_6.f1), (118, .vptr [.str x10_6.f1, q29 x10_6.f2, .bool x10_6.f3, .bool x10_6.f4, w9 x10_6.f5, w9 x10_6.f6]), (117, .vptr [.i x10_6.f0, .str x10_6.f1, q29 x10_6.f2, .bool x10_6.f3, .bool x10_6.f4, w9 x10_6.f5, w9 x10_6.f6]), (116, q29 x9_3.f2), (115, .ptr 1 7 2), (114, .bool false), (113, .bool false), (112, .i x9_3.f0), (111, .ptr 1 7 0), (0, w4 a0), (1, w4 a1), (9, .ptr 0 7 0), (12, .i y18_0), (13, .ptr 1 7 0)]) hb12 (oDr 4 22 E40 (qA4 (l' := (opsAt g11p32).toList.drop 23) (eE := ((133, .vptr [.bool x10_22]) :: E40)) (hs := []) (x := x10_22) (fun (x10_22 : Bool) => (.vptr [.bool x10_22], (mkH K2))) (vidxH (sz := 1) e4_len (by kernel_rfl)) hx10_22 (by kernel_rfl) (oDr 2 25 ((135, .bool x10_22) :: (134, .bool x10_22) :: (133, .vptr [.bool x10_22]) :: E40) (oDe (fun z => ((135, .bool z) :: (134, .bool z) :: (133, .vptr [.bool x10_22]) :: E40)) hb13 (oDr 6 31 E41 (oDe (fun z => [(141, .bool z), (140, .bool z), (139, .bool z), (138, .bool (decide (0 < y18_0))), (137, .bool (decide (0 < y18_0))), (136, .i y18_0), (135, .bool true), (134, .bool true), (133, .vptr [.bool x10_22]), (132, .i y18_0), (131, w4 a0), (130, .bool x9_3.f4), (129, .ptr 1 7 4), (128, .bool false), (127, .bool false), (126, .bool false), (125, .str x10_14), (124, .str x10_13), (123, .slice 2 1 0 1 1), (122, .y (fW .u8 (97 + fW .u8 y18_0))), (121, .y (fW .u8 y18_0)), (120, .i y18_0), (119, .str x10_6.f1), (118, .vptr [.str x10_6.f1, q29 x10_6.f2, .bool x10_6.f3, .bool x10_6.f4, w9 x10_6.f5, w9 x10_6.f6]), (117, .vptr [.i x10_6.f0, .str x10_6.f1, q29 x10_6.f2, .bool x10_6.f3, .bool x10_6.f4, w9 x10_6.f5, w9 x10_6.f6]), (116, q29 x9_3.f2), (115, .ptr 1 7 2), (114, .bool false), (113, .bool false), (112, .i x9_3.f0), (111, .ptr 1 7 0), (0, w4 a0), (1, w4 a1), (9, .ptr 0 7 0), (12, .i y18_0), (13, .ptr 1 7 0)]) hb14 (oDr 10 41 E42 .nil)))))))))))))))) ?_
        refine oZ 123 2 1 1 [.y (fW .u8 (97 + fW .u8 y18_0))] [0, 1, 9, 12, 115, 116, 117, 118, 119, 120, 121, 122, 124, 125, 126, 129, 130, 131, 132, 133, 134, 135, 136, 137, 138, 139, 142, 143, 144, 145, 146, 147, 148, 149, 150, 151] [] trivial ?_
        refine oE [(123, w5 ([fW .u8 (97 + fW .u8 y18_0)] : List Int)), (0, w4 a0), (1, w4 a1), (9, .ptr 0 7 0), (12, .i y18_0), (115, .ptr 1 7 2), (116, q29 x9_3.f2), (117, .vptr [.i x10_6.f0, .str x10_6.f1, q29 x10_6.f2, .bool x10_6.f3, .bool x10_6.f4, w9 x10_6.f5, w9 x10_6.f6]), (118, .vptr [.str x10_6.f1, q29 x10_6.f2, .bool x10_6.f3, .bool x10_6.f4, w9 x10_6.f5, w9 x10_6.f6]), (119, .str x10_6.f1), (120, .i y18_0), (121, .y (fW .u8 y18_0)), (122, .y (fW .u8 (97 + fW .u8 y18_0))), (124, .str x10_13), (125, .str x10_14), (126, .bool false), (129, .ptr 1 7 4), (130, .bool x9_3.f4), (131, w4 a0), (132, .i y18_0), (133, .vptr [.bool x10_22]), (134, .bool true), (135, .bool true), (136, .i y18_0), (137, .bool (decide (0 < y18_0))), (138, .bool (decide (0 < y18_0))), (139, .bool true), (142, .tuple []), (143, .tuple []), (144, .tuple []), (145, .tuple []), (146, .tuple []), (147, .tuple []), (148, .tuple []), (149, .tuple []), (150, .tuple []), (151, .bool true)] ?_
        refine oHp (mkH [⟨e29 x2_4.1, 7, false⟩, ⟨e29 x9_3, 7, false⟩, ⟨[], 0, false⟩]) ?_
        refine oK [0, 1, 9, 12, 151] [(0, w4 a0), (1, w4 a1), (9, .ptr 0 7 0), (12, .i y18_0), (151, .bool true)] ?_
        refine qAa [⟨e29 x2_4.1, 7, false⟩] [⟨e29 x9_3, 7, false⟩, ⟨[], 0, false⟩] (by kernel_rfl) rfl (by kernel_rfl) ⟨(by kernel_rfl), trivial⟩ ?_
        exact hj19 (true, y18_0)
       ·refine qA8 (fun x10_37 hx10_37 => ?_)
        let E32 : Env := [(114, .bool (!decide (x9_3.f0 = 2))), (113, .bool (!decide (x9_3.f0 = 2))), (112, .i x9_3.f0), (111, .ptr 1 7 0), (0, w4 a0), (1, w4 a1), (9, .ptr 0 7 0), (12, .i y18_0), (13, .ptr 1 7 0)]
        let E35 : Env := [(116, q29 x9_3.f2), (115, .ptr 1 7 2), (114, .bool false), (113, .bool false), (112, .i x9_3.f0), (111, .ptr 1 7 0), (0, w4 a0), (1, w4 a1), (9, .ptr 0 7 0), (12, .i y18_0), (13, .ptr 1 7 0)]
        let E36 : Env := ((123, .slice 2 1 0 1 1) :: (122, .y (fW .u8 (97 + fW .u8 y18_0))) :: (121, .y (fW .u8 y18_0)) :: (120, .i y18_0) :: (119, .str x10_6.f1) :: (118, .vptr [.str x10_6.f1, q29 x10_6.f2, .bool x10_6.f3, .bool x10_6.f4, w9 x10_6.f5, w9 x10_6.f6]) :: (117, .vptr [.i x10_6.f0, .str x10_6.f1, q29 x10_6.f2, .bool x10_6.f3, .bool x10_6.f4, w9 x10_6.f5, w9 x10_6.f6]) :: E35)
        let E37 : Env := ((128, .bool (!(eqL x10_6.f1 x10_14))) :: (127, .bool (!(eqL x10_6.f1 x10_14))) :: (126, .bool (!(eqL x10_6.f1 x10_14))) :: (125, .str x10_14) :: (124, .str x10_13) :: E36)
        let E40 : Env := [(132, .i y18_0), (131, w4 a0), (130, .bool x9_3.f4), (129, .ptr 1 7 4), (128, .bool false), (127, .bool false), (126, .bool false), (125, .str x10_14), (124, .str x10_13), (123, .slice 2 1 0 1 1), (122, .y (fW .u8 (97 + fW .u8 y18_0))), (121, .y (fW .u8 y18_0)), (120, .i y18_0), (119, .str x10_6.f1), (118, .vptr [.str x10_6.f1, q29 x10_6.f2, .bool x10_6.f3, .bool x10_6.f4, w9 x10_6.f5, w9 x10_6.f6]), (117, .vptr [.i x10_6.f0, .str x10_6.f1, q29 x10_6.f2, .bool x10_6.f3, .bool x10_6.f4, w9 x10_6.f5, w9 x10_6.f6]), (116, q29 x9_3.f2), (115, .ptr 1 7 2), (114, .bool false), (113, .bool false), (112, .i x9_3.f0), (111, .ptr 1 7 0), (0, w4 a0), (1, w4 a1), (9, .ptr 0 7 0), (12, .i y18_0), (13, .ptr 1 7 0)]
        let E41 : Env := ((141, .bool (!(x9_3.f4 == decide (0 < y18_0)))) :: (140, .bool (!(x9_3.f4 == decide (0 < y18_0)))) :: (139, .bool (!(x9_3.f4 == decide (0 < y18_0)))) :: (138, .bool (decide (0 < y18_0))) :: (137, .bool (decide (0 < y18_0))) :: (136, .i y18_0) :: (135, .bool true) :: (134, .bool true) :: (133, .vptr [.bool x10_22]) :: E40)
        let E44 : Env := [(147, .i y18_0), (146, w4 a1), (145, .bool (decide ((x9_3.f5.length : Int) = 1))), (144, .i (x9_3.f5.length : Int)), (143, w9 x9_3.f5), (142, .ptr 1 7 5), (141, .bool false), (140, .bool false), (139, .bool false), (138, .bool (decide (0 < y18_0))), (137, .bool (decide (0 < y18_0))), (136, .i y18_0), (135, .bool true), (134, .bool true), (133, .vptr [.bool x10_22]), (132, .i y18_0), (131, w4 a0), (130, .bool x9_3.f4), (129, .ptr 1 7 4), (128, .bool false), (127, .bool false), (126, .bool false), (125, .str x10_14), (124, .str x10_13), (123, .slice 2 1 0 1 1), (122, .y (fW .u8 (97 + fW .u8 y18_0))), (121, .y (fW .u8 y18_0)), (120, .i y18_0), (119, .str x10_6.f1), (118, .vptr [.str x10_6.f1, q29 x10_6.f2, .bool x10_6.f3, .bool x10_6.f4, w9 x10_6.f5, w9 x10_6.f6]), (117, .vptr [.i x10_6.f0, .str x10_6.f1, q29 x10_6.f2, .bool x10_6.f3, .bool x10_6.f4, w9 x10_6.f5, w9 x10_6.f6]), (116, q29 x9_3.f2), (115, .ptr 1 7 2), (114, .bool false), (113, .bool false), (112, .i x9_3.f0), (111, .ptr 1 7 0), (0, w4 a0), (1, w4 a1), (9, .ptr 0 7 0), (12, .i y18_0), (13, .ptr 1 7 0)]
        let K3 : List Blk := [⟨e29 x2_4.1, 7, false⟩, ⟨e29 x9_3, 7, false⟩, ⟨[.y (fW .u8 (97 + fW .u8 y18_0))], 0, false⟩]
        refine oD (H' := (mkH K3)) (nav [0] g11p32) ((151, .bool (!(decide ((x9_3.f5.length : Int) = 1) == x10_37))) :: (150, .bool (!(decide ((x9_3.f5.length : Int) = 1) == x10_37))) :: (149, .bool x10_37) :: (148, .vptr [.bool x10_37]) :: E44) [(mkH K3)] g11d0 (oDr 4 4 E32 (oDe (fun z => [(114, .bool z), (113, .bool z), (112, .i x9_3.f0), (111, .ptr 1 7 0), (0, w4 a0), (1, w4 a1), (9, .ptr 0 7 0), (12, .i y18_0), (13, .ptr 1 7 0)]) hb11 (oDr 2 6 E35 (qC1 (l' := (opsAt g11p32).toList.drop 7) (eE := ((117, .vptr [.i x10_6.f0, .str x10_6.f1, q29 x10_6.f2, .bool x10_6.f3, .bool x10_6.f4, w9 x10_6.f5, w9 x10_6.f6]) :: E35)) (hs := []) (x := x10_6) (fun (x10_6 : S28) => (.vptr [.i x10_6.f0, .str x10_6.f1, q29 x10_6.f2, .bool x10_6.f3, .bool x10_6.f4, w9 x10_6.f5, w9 x10_6.f6], (mkH [⟨e29 x2_4.1, 7, false⟩, ⟨e29 x9_3, 7, false⟩]))) (vidxR (sz := 7) qDf hx10_6 (by kernel_rfl)) (by kernel_rfl) (oDh 6 13 E36 (mkH K3) [(mkH K3)] (qA4 (l' := (opsAt g11p32).toList.drop 14) (eE := ((124, .str x10_13) :: E36)) (hs := []) (x := x10_13) (fun (x10_13 : (List Nat)) => (.str x10_13, (mkH K3))) (toSE [fW .u8 (97 + fW .u8 y18_0)] (by kernel_rfl)) hx10_13 (by kernel_rfl) (qA4 (l' := (opsAt g11p32).toList.drop 15) (eE := ((125, .str x10_14) :: (124, .str x10_13) :: E36)) (hs := []) (x := x10_14) (fun (x10_14 : (List Nat)) => (.str x10_14, (mkH K3))) (catH (by kernel_rfl)) hx10_14 (by kernel_rfl) (oDr 3 18 E37 (oDe (fun z => [(128, .bool z), (127, .bool z), (126, .bool z), (125, .str x10_14), (124, .str x10_13), (123, .slice 2 1 0 1 1), (122, .y (fW .u8 (97 + fW .u8 y18_0))), (121, .y (fW .u8 y18_0)), (120, .i y18_0), (119, .str x10_6.f1), (118, .vptr [.str x10_6.f1, q29 x10_6.f2, .bool x10_6.f3, .bool x10_6.f4, w9 x10_6.f5, w9 x10_6.f6]), (117, .vptr [.i x10_6.f0, .str x10_6.f1, q29 x10_6.f2, .bool x10_6.f3, .bool x10_6.f4, w9 x10_6.f5, w9 x10_6.f6]), (116, q29 x9_3.f2), (115, .ptr 1 7 2), (114, .bool false), (113, .bool false), (112, .i x9_3.f0), (111, .ptr 1 7 0), (0, w4 a0), (1, w4 a1), (9, .ptr 0 7 0), (12, .i y18_0), (13, .ptr 1 7 0)]) hb12 (oDr 4 22 E40 (qA4 (l' := (opsAt g11p32).toList.drop 23) (eE := ((133, .vptr [.bool x10_22]) :: E40)) (hs := []) (x := x10_22) (fun (x10_22 : Bool) => (.vptr [.bool x10_22], (mkH K3))) (vidxH (sz := 1) e4_len (by kernel_rfl)) hx10_22 (by kernel_rfl) (oDr 2 25 ((135, .bool x10_22) :: (134, .bool x10_22) :: (133, .vptr [.bool x10_22]) :: E40) (oDe (fun z => ((135, .bool z) :: (134, .bool z) :: (133, .vptr [.bool x10_22]) :: E40)) hb13 (oDr 6 31 E41 (oDe (fun z => [(141, .bool z), (140, .bool z), (139, .bool z), (138, .bool (decide (0 < y18_0))), (137, .bool (decide (0 < y18_0))), (136, .i y18_0), (135, .bool true), (134, .bool true), (133, .vptr [.bool x10_22]), (132, .i y18_0), (131, w4 a0), (130, .bool x9_3.f4), (129, .ptr 1 7 4), (128, .bool false), (127, .bool false), (126, .bool false), (125, .str x10_14), (124, .str x10_13), (123, .slice 2 1 0 1 1), (122, .y (fW .u8 (97 + fW .u8 y18_0))), (121, .y (fW .u8 y18_0)), (120, .i y18_0), (119, .str x10_6.f1), (118, .vptr [.str x10_6.f1, q29 x10_6.f2, .bool x10_6.f3, .bool x10_6.f4, w9 x10_6.f5, w9 x10_6.f6]), (117, .vptr [.i x10_6.f0, .str x10_6.f1, q29 x10_6.f2, .bool x10_6.f3, .bool x10_6.f4, w9 x10_6.f5, w9 x10_6.f6]), (116, q29 x9_3.f2), (115, .ptr 1 7 2), (114, .bool false), (113, .bool false), (112, .i x9_3.f0), (111, .ptr 1 7 0), (0, w4 a0), (1, w4 a1), (9, .ptr 0 7 0), (12, .i y18_0), (13, .ptr 1 7 0)]) hb14 (oDr 6 37 E44 (qA4 (l' := (opsAt g11p32).toList.drop 38) (eE := ((148, .vptr [.bool x10_37]) :: E44)) (hs := []) (x := x10_37) (fun (x10_37 : Bool) => (.vptr [.bool x10_37], (mkH K3))) (vidxH (sz := 1) e4_len (by kernel_rfl)) hx10_37 (by kernel_rfl) (oDr 3 41 ((151, .bool (!(decide ((x9_3.f5.length : Int) = 1) == x10_37))) :: (150, .bool (!(decide ((x9_3.f5.length : Int) = 1) == x10_37))) :: (149, .bool x10_37) :: (148, .vptr [.bool x10_37]) :: E44) .nil)))))))))))))))))) ?_
        refine oZ 123 2 1 1 [.y (fW .u8 (97 + fW .u8 y18_0))] [0, 1, 9, 12, 115, 116, 117, 118, 119, 120, 121, 122, 124, 125, 126, 129, 130, 131, 132, 133, 134, 135, 136, 137, 138, 139, 142, 143, 144, 145, 146, 147, 148, 149, 150, 151] [] trivial ?_
        refine oE [(123, w5 ([fW .u8 (97 + fW .u8 y18_0)] : List Int)), (0, w4 a0), (1, w4 a1), (9, .ptr 0 7 0), (12, .i y18_0), (115, .ptr 1 7 2), (116, q29 x9_3.f2), (117, .vptr [.i x10_6.f0, .str x10_6.f1, q29 x10_6.f2, .bool x10_6.f3, .bool x10_6.f4, w9 x10_6.f5, w9 x10_6.f6]), (118, .vptr [.str x10_6.f1, q29 x10_6.f2, .bool x10_6.f3, .bool x10_6.f4, w9 x10_6.f5, w9 x10_6.f6]), (119, .str x10_6.f1), (120, .i y18_0), (121, .y (fW .u8 y18_0)), (122, .y (fW .u8 (97 + fW .u8 y18_0))), (124, .str x10_13), (125, .str x10_14), (126, .bool false), (129, .ptr 1 7 4), (130, .bool x9_3.f4), (131, w4 a0), (132, .i y18_0), (133, .vptr [.bool x10_22]), (134, .bool true), (135, .bool true), (136, .i y18_0), (137, .bool (decide (0 < y18_0))), (138, .bool (decide (0 < y18_0))), (139, .bool false), (142, .ptr 1 7 5), (143, w9 x9_3.f5), (144, .i (x9_3.f5.length : Int)), (145, .bool (decide ((x9_3.f5.length : Int) = 1))), (146, w4 a1), (147, .i y18_0), (148, .vptr [.bool x10_37]), (149, .bool x10_37), (150, .bool (!(decide ((x9_3.f5.length : Int) = 1) == x10_37))), (151, .bool (!(decide ((x9_3.f5.length : Int) = 1) == x10_37)))] ?_
        refine oHp (mkH [⟨e29 x2_4.1, 7, false⟩, ⟨e29 x9_3, 7, false⟩, ⟨[], 0, false⟩]) ?_
        refine oK [0, 1, 9, 12, 151] [(0, w4 a0), (1, w4 a1), (9, .ptr 0 7 0), (12, .i y18_0), (151, .bool (!(decide ((x9_3.f5.length : Int) = 1) == x10_37)))] ?_
        refine qAa [⟨e29 x2_4.1, 7, false⟩] [⟨e29 x9_3, 7, false⟩, ⟨[], 0, false⟩] (by kernel_rfl) rfl (by kernel_rfl) ⟨(by kernel_rfl), trivial⟩ ?_
        exact hj19 (!(decide ((x9_3.f5.length : Int) = 1) == x10_37), y18_0)
      ·refine qCv (fun hb14 => ?_) (fun hb14 => ?_)
       ·let E32 : Env := [(114, .bool (!decide (x9_3.f0 = 2))), (113, .bool (!decide (x9_3.f0 = 2))), (112, .i x9_3.f0), (111, .ptr 1 7 0), (0, w4 a0), (1, w4 a1), (9, .ptr 0 7 0), (12, .i y18_0), (13, .ptr 1 7 0)]
        let E35 : Env := [(116, q29 x9_3.f2), (115, .ptr 1 7 2), (114, .bool false), (113, .bool false), (112, .i x9_3.f0), (111, .ptr 1 7 0), (0, w4 a0), (1, w4 a1), (9, .ptr 0 7 0), (12, .i y18_0), (13, .ptr 1 7 0)]
        let E36 : Env := ((123, .slice 2 1 0 1 1) :: (122, .y (fW .u8 (97 + fW .u8 y18_0))) :: (121, .y (fW .u8 y18_0)) :: (120, .i y18_0) :: (119, .str x10_6.f1) :: (118, .vptr [.str x10_6.f1, q29 x10_6.f2, .bool x10_6.f3, .bool x10_6.f4, w9 x10_6.f5, w9 x10_6.f6]) :: (117, .vptr [.i x10_6.f0, .str x10_6.f1, q29 x10_6.f2, .bool x10_6.f3, .bool x10_6.f4, w9 x10_6.f5, w9 x10_6.f6]) :: E35)
        let E37 : Env := ((128, .bool (!(eqL x10_6.f1 x10_14))) :: (127, .bool (!(eqL x10_6.f1 x10_14))) :: (126, .bool (!(eqL x10_6.f1 x10_14))) :: (125, .str x10_14) :: (124, .str x10_13) :: E36)
        let E40 : Env := [(132, .i y18_0), (131, w4 a0), (130, .bool x9_3.f4), (129, .ptr 1 7 4), (128, .bool false), (127, .bool false), (126, .bool false), (125, .str x10_14), (124, .str x10_13), (123, .slice 2 1 0 1 1), (122, .y (fW .u8 (97 + fW .u8 y18_0))), (121, .y (fW .u8 y18_0)), (120, .i y18_0), (119, .str x10_6.f1), (118, .vptr [.str x10_6.f1, q29 x10_6.f2, .bool x10_6.f3, .bool x10_6.f4, w9 x10_6.f5, w9 x10_6.f6]), (117, .vptr [.i x10_6.f0, .str x10_6.f1, q29 x10_6.f2, .bool x10_6.f3, .bool x10_6.f4, w9 x10_6.f5, w9 x10_6.f6]), (116, q29 x9_3.f2), (115, .ptr 1 7 2), (114, .bool false), (113, .bool false), (112, .i x9_3.f0), (111, .ptr 1 7 0), (0, w4 a0), (1, w4 a1), (9, .ptr 0 7 0), (12, .i y18_0), (13, .ptr 1 7 0)]
        let E46 : Env := ((141, .bool (!(x9_3.f4 == false))) :: (140, .bool (!(x9_3.f4 == false))) :: (139, .bool (!(x9_3.f4 == false))) :: (138, .bool false) :: (137, .tuple []) :: (136, .tuple []) :: (135, .bool false) :: (134, .bool false) :: (133, .vptr [.bool x10_22]) :: E40)
        let E47 : Env := [(151, .bool true), (150, .tuple []), (149, .tuple []), (148, .tuple []), (147, .tuple []), (146, .tuple []), (145, .tuple []), (144, .tuple []), (143, .tuple []), (142, .tuple []), (141, .bool true), (140, .bool true), (139, .bool true), (138, .bool false), (137, .tuple []), (136, .tuple []), (135, .bool false), (134, .bool false), (133, .vptr [.bool x10_22]), (132, .i y18_0), (131, w4 a0), (130, .bool x9_3.f4), (129, .ptr 1 7 4), (128, .bool false), (127, .bool false), (126, .bool false), (125, .str x10_14), (124, .str x10_13), (123, .slice 2 1 0 1 1), (122, .y (fW .u8 (97 + fW .u8 y18_0))), (121, .y (fW .u8 y18_0)), (120, .i y18_0), (119, .str x10_6.f1), (118, .vptr [.str x10_6.f1, q29 x10_6.f2, .bool x10_6.f3, .bool x10_6.f4, w9 x10_6.f5, w9 x10_6.f6]), (117, .vptr [.i x10_6.f0, .str x10_6.f1, q29 x10_6.f2, .bool x10_6.f3, .bool x10_6.f4, w9 x10_6.f5, w9 x10_6.f6]), (116, q29 x9_3.f2), (115, .ptr 1 7 2), (114, .bool false), (113, .bool false), (112, .i x9_3.f0), (111, .ptr 1 7 0), (0, w4 a0), (1, w4 a1), (9, .ptr 0 7 0), (12, .i y18_0), (13, .ptr 1 7 0)]
        let K4 : List Blk := [⟨e29 x2_4.1, 7, false⟩, ⟨e29 x9_3, 7, false⟩, ⟨[.y (fW .u8 (97 + fW .u8 y18_0))], 0, false⟩]
        refine oD (H' := (mkH K4)) (nav [0] g11p32) E47 [(mkH K4)] g11d0 (oDr 4 4 E32 (oDe (fun z => [(114, .bool z), (113, .bool z), (112, .i x9_3.f0), (111, .ptr 1 7 0), (0, w4 a0), (1, w4 a1), (9, .ptr 0 7 0), (12, .i y18_0), (13, .ptr 1 7 0)]) hb11 (oDr 2 6 E35 (qC1 (l' := (opsAt g11p32).toList.drop 7) (eE := ((117, .vptr [.i x10_6.f0, .str x10_6.f1, q29 x10_6.f2, .bool x10_6.f3, .bool x10_6.f4, w9 x10_6.f5, w9 x10_6.f6]) :: E35)) (hs := []) (x := x10_6) (fun (x10_6 : S28) => (.vptr [.i x10_6.f0, .str x10_6.f1, q29 x10_6.f2, .bool x10_6.f3, .bool x10_6.f4, w9 x10_6.f5, w9 x10_6.f6], (mkH [⟨e29 x2_4.1, 7, false⟩, ⟨e29 x9_3, 7, false⟩]))) (vidxR (sz := 7) qDf hx10_6 (by kernel_rfl)) (by kernel_rfl) (oDh 6 13 E36 (mkH K4) [(mkH K4)] (qA4 (l' := (opsAt g11p32).toList.drop 14) (eE := ((124, .str x10_13) :: E36)) (hs := []) (x := x10_13) (fun (x10_13 : (List Nat)) => (.str x10_13, (mkH K4))) (toSE [fW .u8 (97 + fW .u8 y18_0)] (by kernel_rfl)) hx10_13 (by kernel_rfl) (qA4 (l' := (opsAt g11p32).toList.drop 15) (eE := ((125, .str x10_14) :: (124, .str x10_13) :: E36)) (hs := []) (x := x10_14) (fun (x10_14 : (List Nat)) => (.str x10_14, (mkH K4))) (catH (by kernel_rfl)) hx10_14 (by kernel_rfl) (oDr 3 18 E37 (oDe (fun z => [(128, .bool z), (127, .bool z), (126, .bool z), (125, .str x10_14), (124, .str x10_13), (123, .slice 2 1 0 1 1), (122, .y (fW .u8 (97 + fW .u8 y18_0))), (121, .y (fW .u8 y18_0)), (120, .i y18_0), (119, .str x10_6.f1), (118, .vptr [.str x10_6.f1, q29 x10_6.f2, .bool x10_6.f3, .bool x10_6.f4, w9 x10_6.f5, w9 x10_6.f6]), (117, .vptr [.i x10_6.f0, .str x10_6.f1, q29 x10_6.f2, .bool x10_6.f3, .bool x10_6.f4, w9 x10_6.f5, w9 x10_6.f6]), (116, q29 x9_3.f2), (115, .ptr 1 7 2), (114, .bool false), (113, .bool false), (112, .i x9_3.f0), (111, .ptr 1 7 0), (0, w4 a0), (1, w4 a1), (9, .ptr 0 7 0), (12, .i y18_0), (13, .ptr 1 7 0)]) hb12 (oDr 4 22 E40 (qA4 (l' := (opsAt g11p32).toList.drop 23) (eE := ((133, .vptr [.bool x10_22]) :: E40)) (hs := []) (x := x10_22) (fun (x10_22 : Bool) => (.vptr [.bool x10_22], (mkH K4))) (vidxH (sz := 1) e4_len (by kernel_rfl)) hx10_22 (by kernel_rfl) (oDr 2 25 ((135, .bool x10_22) :: (134, .bool x10_22) :: (133, .vptr [.bool x10_22]) :: E40) (oDe (fun z => ((135, .bool z) :: (134, .bool z) :: (133, .vptr [.bool x10_22]) :: E40)) hb13 (oDr 6 31 E46 (oDe (fun z => [(141, .bool z), (140, .bool z), (139, .bool z), (138, .bool false), (137, .tuple []), (136, .tuple []), (135, .bool false), (134, .bool false), (133, .vptr [.bool x10_22]), (132, .i y18_0), (131, w4 a0), (130, .bool x9_3.f4), (129, .ptr 1 7 4), (128, .bool false), (127, .bool false), (126, .bool false), (125, .str x10_14), (124, .str x10_13), (123, .slice 2 1 0 1 1), (122, .y (fW .u8 (97 + fW .u8 y18_0))), (121, .y (fW .u8 y18_0)), (120, .i y18_0), (119, .str x10_6.f1), (118, .vptr [.str x10_6.f1, q29 x10_6.f2, .bool x10_6.f3, .bool x10_6.f4, w9 x10_6.f5, w9 x10_6.f6]), (117, .vptr [.i x10_6.f0, .str x10_6.f1, q29 x10_6.f2, .bool x10_6.f3, .bool x10_6.f4, w9 x10_6.f5, w9 x10_6.f6]), (116, q29 x9_3.f2), (115, .ptr 1 7 2), (114, .bool false), (113, .bool false), (112, .i x9_3.f0), (111, .ptr 1 7 0), (0, w4 a0), (1, w4 a1), (9, .ptr 0 7 0), (12, .i y18_0), (13, .ptr 1 7 0)]) hb14 (oDr 10 41 E47 .nil)))))))))))))))) ?_
        refine oZ 123 2 1 1 [.y (fW .u8 (97 + fW .u8 y18_0))] [0, 1, 9, 12, 115, 116, 117, 118, 119, 120, 121, 122, 124, 125, 126, 129, 130, 131, 132, 133, 134, 135, 136, 137, 138, 139, 142, 143, 144, 145, 146, 147, 148, 149, 150, 151] [] trivial ?_
        refine oE [(123, w5 ([fW .u8 (97 + fW .u8 y18_0)] : List Int)), (0, w4 a0), (1, w4 a1), (9, .ptr 0 7 0), (12, .i y18_0), (115, .ptr 1 7 2), (116, q29 x9_3.f2), (117, .vptr [.i x10_6.f0, .str x10_6.f1, q29 x10_6.f2, .bool x10_6.f3, .bool x10_6.f4, w9 x10_6.f5, w9 x10_6.f6]), (118, .vptr [.str x10_6.f1, q29 x10_6.f2, .bool x10_6.f3, .bool x10_6.f4, w9 x10_6.f5, w9 x10_6.f6]), (119, .str x10_6.f1), (120, .i y18_0), (121, .y (fW .u8 y18_0)), (122, .y (fW .u8 (97 + fW .u8 y18_0))), (124, .str x10_13), (125, .str x10_14), (126, .bool false), (129, .ptr 1 7 4), (130, .bool x9_3.f4), (131, w4 a0), (132, .i y18_0), (133, .vptr [.bool x10_22]), (134, .bool false), (135, .bool false), (136, .tuple []), (137, .tuple []), (138, .bool false), (139, .bool true), (142, .tuple []), (143, .tuple []), (144, .tuple []), (145, .tuple []), (146, .tuple []), (147, .tuple []), (148, .tuple []), (149, .tuple []), (150, .tuple []), (151, .bool true)] ?_
        refine oHp (mkH [⟨e29 x2_4.1, 7, false⟩, ⟨e29 x9_3, 7, false⟩, ⟨[], 0, false⟩]) ?_
        refine oK [0, 1, 9, 12, 151] [(0, w4 a0), (1, w4 a1), (9, .ptr 0 7 0), (12, .i y18_0), (151, .bool true)] ?_
        refine qAa [⟨e29 x2_4.1, 7, false⟩] [⟨e29 x9_3, 7, false⟩, ⟨[], 0, false⟩] (by kernel_rfl) rfl (by kernel_rfl) ⟨(by kernel_rfl), trivial⟩ ?_
        exact hj19 (true, y18_0)
       ·refine qA8 (fun x10_37 hx10_37 => ?_)
        let E32 : Env := [(114, .bool (!decide (x9_3.f0 = 2))), (113, .bool (!decide (x9_3.f0 = 2))), (112, .i x9_3.f0), (111, .ptr 1 7 0), (0, w4 a0), (1, w4 a1), (9, .ptr 0 7 0), (12, .i y18_0), (13, .ptr 1 7 0)]
        let E35 : Env := [(116, q29 x9_3.f2), (115, .ptr 1 7 2), (114, .bool false), (113, .bool false), (112, .i x9_3.f0), (111, .ptr 1 7 0), (0, w4 a0), (1, w4 a1), (9, .ptr 0 7 0), (12, .i y18_0), (13, .ptr 1 7 0)]
        let E36 : Env := ((123, .slice 2 1 0 1 1) :: (122, .y (fW .u8 (97 + fW .u8 y18_0))) :: (121, .y (fW .u8 y18_0)) :: (120, .i y18_0) :: (119, .str x10_6.f1) :: (118, .vptr [.str x10_6.f1, q29 x10_6.f2, .bool x10_6.f3, .bool x10_6.f4, w9 x10_6.f5, w9 x10_6.f6]) :: (117, .vptr [.i x10_6.f0, .str x10_6.f1, q29 x10_6.f2, .bool x10_6.f3, .bool x10_6.f4, w9 x10_6.f5, w9 x10_6.f6]) :: E35)
        let E37 : Env := ((128, .bool (!(eqL x10_6.f1 x10_14))) :: (127, .bool (!(eqL x10_6.f1 x10_14))) :: (126, .bool (!(eqL x10_6.f1 x10_14))) :: (125, .str x10_14) :: (124, .str x10_13) :: E36)
        let E40 : Env := [(132, .i y18_0), (131, w4 a0), (130, .bool x9_3.f4), (129, .ptr 1 7 4), (128, .bool false), (127, .bool false), (126, .bool false), (125, .str x10_14), (124, .str x10_13), (123, .slice 2 1 0 1 1), (122, .y (fW .u8 (97 + fW .u8 y18_0))), (121, .y (fW .u8 y18_0)), (120, .i y18_0), (119, .str x10_6.f1), (118, .vptr [.str x10_6.f1, q29 x10_6.f2, .bool x10_6.f3, .bool x10_6.f4, w9 x10_6.f5, w9 x10_6.f6]), (117, .vptr [.i x10_6.f0, .str x10_6.f1, q29 x10_6.f2, .bool x10_6.f3, .bool x10_6.f4, w9 x10_6.f5, w9 x10_6.f6]), (116, q29 x9_3.f2), (115, .ptr 1 7 2), (114, .bool false), (113, .bool false), (112, .i x9_3.f0), (111, .ptr 1 7 0), (0, w4 a0), (1, w4 a1), (9, .ptr 0 7 0), (12, .i y18_0), (13, .ptr 1 7 0)]
        let E46 : Env := ((141, .bool (!(x9_3.f4 == false))) :: (140, .bool (!(x9_3.f4 == false))) :: (139, .bool (!(x9_3.f4 == false))) :: (138, .bool false) :: (137, .tuple []) :: (136, .tuple []) :: (135, .bool false) :: (134, .bool false) :: (133, .vptr [.bool x10_22]) :: E40)
        let E49 : Env := [(147, .i y18_0), (146, w4 a1), (145, .bool (decide ((x9_3.f5.length : Int) = 1))), (144, .i (x9_3.f5.length : Int)), (143, w9 x9_3.f5), (142, .ptr 1 7 5), (141, .bool false), (140, .bool false), (139, .bool false), (138, .bool false), (137, .tuple []), (136, .tuple []), (135, .bool false), (134, .bool false), (133, .vptr [.bool x10_22]), (132, .i y18_0), (131, w4 a0), (130, .bool x9_3.f4), (129, .ptr 1 7 4), (128, .bool false), (127, .bool false), (126, .bool false), (125, .str x10_14), (124, .str x10_13), (123, .slice 2 1 0 1 1), (122, .y (fW .u8 (97 + fW .u8 y18_0))), (121, .y (fW .u8 y18_0)), (120, .i y18_0), (119, .str x10_6.f1), (118, .vptr [.str x10_6.f1, q29 x10_6.f2, .bool x10_6.f3, .bool x10_6.f4, w9 x10_6.f5, w9 x10_6.f6]), (117, .vptr [.i x10_6.f0, .str x10_6.f1, q29 x10_6.f2, .bool x10_6.f3, .bool x10_6.f4, w9 x10_6.f5, w9 x10_6.f6]), (116, q29 x9_3.f2), (115, .ptr 1 7 2), (114, .bool false), (113, .bool false), (112, .i x9_3.f0), (111, .ptr 1 7 0), (0, w4 a0), (1, w4 a1), (9, .ptr 0 7 0), (12, .i y18_0), (13, .ptr 1 7 0)]
        let K5 : List Blk := [⟨e29 x2_4.1, 7, false⟩, ⟨e29 x9_3, 7, false⟩, ⟨[.y (fW .u8 (97 + fW .u8 y18_0))], 0, false⟩]
        refine oD (H' := (mkH K5)) (nav [0] g11p32) ((151, .bool (!(decide ((x9_3.f5.length : Int) = 1) == x10_37))) :: (150, .bool (!(decide ((x9_3.f5.length : Int) = 1) == x10_37))) :: (149, .bool x10_37) :: (148, .vptr [.bool x10_37]) :: E49) [(mkH K5)] g11d0 (oDr 4 4 E32 (oDe (fun z => [(114, .bool z), (113, .bool z), (112, .i x9_3.f0), (111, .ptr 1 7 0), (0, w4 a0), (1, w4 a1), (9, .ptr 0 7 0), (12, .i y18_0), (13, .ptr 1 7 0)]) hb11 (oDr 2 6 E35 (qC1 (l' := (opsAt g11p32).toList.drop 7) (eE := ((117, .vptr [.i x10_6.f0, .str x10_6.f1, q29 x10_6.f2, .bool x10_6.f3, .bool x10_6.f4, w9 x10_6.f5, w9 x10_6.f6]) :: E35)) (hs := []) (x := x10_6) (fun (x10_6 : S28) => (.vptr [.i x10_6.f0, .str x10_6.f1, q29 x10_6.f2, .bool x10_6.f3, .bool x10_6.f4, w9 x10_6.f5, w9 x10_6.f6], (mkH [⟨e29 x2_4.1, 7, false⟩, ⟨e29 x9_3, 7, false⟩]))) (vidxR (sz := 7) qDf hx10_6 (by kernel_rfl)) (by kernel_rfl) (oDh 6 13 E36 (mkH K5) [(mkH K5)] (qA4 (l' := (opsAt g11p32).toList.drop 14) (eE := ((124, .str x10_13) :: E36)) (hs := []) (x := x10_13) (fun (x10_13 : (List Nat)) => (.str x10_13, (mkH K5))) (toSE [fW .u8 (97 + fW .u8 y18_0)] (by kernel_rfl)) hx10_13 (by kernel_rfl) (qA4 (l' := (opsAt g11p32).toList.drop 15) (eE := ((125, .str x10_14) :: (124, .str x10_13) :: E36)) (hs := []) (x := x10_14) (fun (x10_14 : (List Nat)) => (.str x10_14, (mkH K5))) (catH (by kernel_rfl)) hx10_14 (by kernel_rfl) (oDr 3 18 E37 (oDe (fun z => [(128, .bool z), (127, .bool z), (126, .bool z), (125, .str x10_14), (124, .str x10_13), (123, .slice 2 1 0 1 1), (122, .y (fW .u8 (97 + fW .u8 y18_0))), (121, .y (fW .u8 y18_0)), (120, .i y18_0), (119, .str x10_6.f1), (118, .vptr [.str x10_6.f1, q29 x10_6.f2, .bool x10_6.f3, .bool x10_6.f4, w9 x10_6.f5, w9 x10_6.f6]), (117, .vptr [.i x10_6.f0, .str x10_6.f1, q29 x10_6.f2, .bool x10_6.f3, .bool x10_6.f4, w9 x10_6.f5, w9 x10_6.f6]), (116, q29 x9_3.f2), (115, .ptr 1 7 2), (114, .bool false), (113, .bool false), (112, .i x9_3.f0), (111, .ptr 1 7 0), (0, w4 a0), (1, w4 a1), (9, .ptr 0 7 0), (12, .i y18_0), (13, .ptr 1 7 0)]) hb12 (oDr 4 22 E40 (qA4 (l' := (opsAt g11p32).toList.drop 23) (eE := ((133, .vptr [.bool x10_22]) :: E40)) (hs := []) (x := x10_22) (fun (x10_22 : Bool) => (.vptr [.bool x10_22], (mkH K5))) (vidxH (sz := 1) e4_len (by kernel_rfl)) hx10_22 (by kernel_rfl) (oDr 2 25 ((135, .bool x10_22) :: (134, .bool x10_22) :: (133, .vptr [.bool x10_22]) :: E40) (oDe (fun z => ((135, .bool z) :: (134, .bool z) :: (133, .vptr [.bool x10_22]) :: E40)) hb13 (oDr 6 31 E46 (oDe (fun z => [(141, .bool z), (140, .bool z), (139, .bool z), (138, .bool false), (137, .tuple []), (136, .tuple []), (135, .bool false), (134, .bool false), (133, .vptr [.bool x10_22]), (132, .i y18_0), (131, w4 a0), (130, .bool x9_3.f4), (129, .ptr 1 7 4), (128, .bool false), (127, .bool false), (126, .bool false), (125, .str x10_14), (124, .str x10_13), (123, .slice 2 1 0 1 1), (122, .y (fW .u8 (97 + fW .u8 y18_0))), (121, .y (fW .u8 y18_0)), (120, .i y18_0), (119, .str x10_6.f1), (118, .vptr [.str x10_6.f1, q29 x10_6.f2, .bool x10_6.f3, .bool x10_6.f4, w9 x10_6.f5, w9 x10_6.f6]), (117, .vptr [.i x10_6.f0, .str x10_6.f1, q29 x10_6.f2, .bool x10_6.f3, .bool x10_6.f4, w9 x10_6.f5, w9 x10_6.f6]), (116, q29 x9_3.f2), (115, .ptr 1 7 2), (114, .bool false), (113, .bool false), (112, .i x9_3.f0), (111, .ptr 1 7 0), (0, w4 a0), (1, w4 a1), (9, .ptr 0 7 0), (12, .i y18_0), (13, .ptr 1 7 0)]) hb14 (oDr 6 37 E49 (qA4 (l' := (opsAt g11p32).toList.drop 38) (eE := ((148, .vptr [.bool x10_37]) :: E49)) (hs := []) (x := x10_37) (fun (x10_37 : Bool) => (.vptr [.bool x10_37], (mkH K5))) (vidxH (sz := 1) e4_len (by kernel_rfl)) hx10_37 (by kernel_rfl) (oDr 3 41 ((151, .bool (!(decide ((x9_3.f5.length : Int) = 1) == x10_37))) :: (150, .bool (!(decide ((x9_3.f5.length : Int) = 1) == x10_37))) :: (149, .bool x10_37) :: (148, .vptr [.bool x10_37]) :: E49) .nil)))))))))))))))))) ?_
        refine oZ 123 2 1 1 [.y (fW .u8 (97 + fW .u8 y18_0))] [0, 1, 9, 12, 115, 116, 117, 118, 119, 120, 121, 122, 124, 125, 126, 129, 130, 131, 132, 133, 134, 135, 136, 137, 138, 139, 142, 143, 144, 145, 146, 147, 148, 149, 150, 151] [] trivial ?_
        refine oE [(123, w5 ([fW .u8 (97 + fW .u8 y18_0)] : List Int)), (0, w4 a0), (1, w4 a1), (9, .ptr 0 7 0), (12, .i y18_0), (115, .ptr 1 7 2), (116, q29 x9_3.f2), (117, .vptr [.i x10_6.f0, .str x10_6.f1, q29 x10_6.f2, .bool x10_6.f3, .bool x10_6.f4, w9 x10_6.f5, w9 x10_6.f6]), (118, .vptr [.str x10_6.f1, q29 x10_6.f2, .bool x10_6.f3, .bool x10_6.f4, w9 x10_6.f5, w9 x10_6.f6]), (119, .str x10_6.f1), (120, .i y18_0), (121, .y (fW .u8 y18_0)), (122, .y (fW .u8 (97 + fW .u8 y18_0))), (124, .str x10_13), (125, .str x10_14), (126, .bool false), (129, .ptr 1 7 4), (130, .bool x9_3.f4), (131, w4 a0), (132, .i y18_0), (133, .vptr [.bool x10_22]), (134, .bool false), (135, .bool false), (136, .tuple []), (137, .tuple []), (138, .bool false), (139, .bool false), (142, .ptr 1 7 5), (143, w9 x9_3.f5), (144, .i (x9_3.f5.length : Int)), (145, .bool (decide ((x9_3.f5.length : Int) = 1))), (146, w4 a1), (147, .i y18_0), (148, .vptr [.bool x10_37]), (149, .bool x10_37), (150, .bool (!(decide ((x9_3.f5.length : Int) = 1) == x10_37))), (151, .bool (!(decide ((x9_3.f5.length : Int) = 1) == x10_37)))] ?_
        refine oHp (mkH [⟨e29 x2_4.1, 7, false⟩, ⟨e29 x9_3, 7, false⟩, ⟨[], 0, false⟩]) ?_
        refine oK [0, 1, 9, 12, 151] [(0, w4 a0), (1, w4 a1), (9, .ptr 0 7 0), (12, .i y18_0), (151, .bool (!(decide ((x9_3.f5.length : Int) = 1) == x10_37)))] ?_
        refine qAa [⟨e29 x2_4.1, 7, false⟩] [⟨e29 x9_3, 7, false⟩, ⟨[], 0, false⟩] (by kernel_rfl) rfl (by kernel_rfl) ⟨(by kernel_rfl), trivial⟩ ?_
        exact hj19 (!(decide ((x9_3.f5.length : Int) = 1) == x10_37), y18_0)
  ·refine oR 4 (atN 0 (ctl1 g11p31)) ((103, .bool false) :: E26) ?_
   refine oA (fun (x11_0 : Bool) => .bool x11_0) (atN 1 (ctl1 g11p31)) 152 [] (g16_ok k ) fun x11_0 hx11_0 => ?_
   exact oQ 3
def qG1 (k : Nat)  (a0 : (List Bool)) (a1 : (List Bool)) (ih : (List Nat) → Int → Option Bool) : (List Nat) → Int → Option Bool :=
 fun (y13_0 : (List Nat)) (y13_1 : Int) => if (decide (y13_1 < (a0.length : Int))) then (jn (fun (z14 : (List Nat) × Int) => (nthL a0 z14.2).bind fun x3_2 => jn (fun (z16 : (List Nat) × Int) => (nthL a1 z16.2).bind fun x4_2 => jn (fun (z17 : (List Nat) × Int) => (catS z17.1 ([120] : List Nat)).bind fun x6_1 => (toS ([fW .u8 (97 + fW .u8 z17.2)] : List Int)).bind fun x6_6 => (catS x6_1 x6_6).bind fun x6_7 => (catS x6_7 ([40, 49, 41] : List Nat)).bind fun x6_8 => ih x6_8 (fW .i64 (z17.2 + 1))) (fun j17 => if x4_2 then ((catS z16.1 ([37, 110, 10] : List Nat)).bind fun x5_1 => j17 (x5_1, z16.2)) else (j17 (z16.1, z16.2)))) (fun j16 => if x3_2 then ((catS z14.1 ([10, 10] : List Nat)).bind fun x8_1 => j16 (x8_1, z14.2)) else (j16 (z14.1, z14.2)))) (fun j14 => if (decide (0 < y13_1)) then ((catS y13_0 ([44] : List Nat)).bind fun x7_1 => j14 (x7_1, y13_1)) else (j14 (y13_0, y13_1)))) else ((g13 k y13_0).bind fun x1_1 => (g23 k y13_0 x1_1.1 (0 : Int) (x1_1.1.length : Int)).bind fun x2_4 => jn (fun (z15 : Bool) => if z15 then (some false) else (qC6 k a0 a1 x2_4 k 0)) (fun j15 => if (!decide (x1_1.2 = 0)) then (j15 true) else (if (!decide (x2_4.2.2 = 0)) then (j15 true) else (if (!decide (x2_4.2.1 = (x1_1.1.length : Int))) then (j15 true) else (if (!decide (x2_4.1.f0 = 25)) then (j15 true) else (j15 (!decide ((x2_4.1.f2.n : Int) = (a0.length : Int)))))))))
def qCo (k : Nat)  (a0 : (List Bool)) (a1 : (List Bool)) (n : Nat) : (List Nat) → Int → Option Bool := lp (fun _ _ => none) (qG1 k a0 a1) n
theorem qOl (k : Nat)  (a0 : (List Bool)) (a1 : (List Bool)) (n : Nat) (y13_0 : (List Nat)) (y13_1 : Int) : qCo k a0 a1 (n + 1) y13_0 y13_1 = (if (decide (y13_1 < (a0.length : Int))) then (jn (fun (z14 : (List Nat) × Int) => (nthL a0 z14.2).bind fun x3_2 => jn (fun (z16 : (List Nat) × Int) => (nthL a1 z16.2).bind fun x4_2 => jn (fun (z17 : (List Nat) × Int) => (catS z17.1 ([120] : List Nat)).bind fun x6_1 => (toS ([fW .u8 (97 + fW .u8 z17.2)] : List Int)).bind fun x6_6 => (catS x6_1 x6_6).bind fun x6_7 => (catS x6_7 ([40, 49, 41] : List Nat)).bind fun x6_8 => (qCo k a0 a1 n) x6_8 (fW .i64 (z17.2 + 1))) (fun j17 => if x4_2 then ((catS z16.1 ([37, 110, 10] : List Nat)).bind fun x5_1 => j17 (x5_1, z16.2)) else (j17 (z16.1, z16.2)))) (fun j16 => if x3_2 then ((catS z14.1 ([10, 10] : List Nat)).bind fun x8_1 => j16 (x8_1, z14.2)) else (j16 (z14.1, z14.2)))) (fun j14 => if (decide (0 < y13_1)) then ((catS y13_0 ([44] : List Nat)).bind fun x7_1 => j14 (x7_1, y13_1)) else (j14 (y13_0, y13_1)))) else ((g13 k y13_0).bind fun x1_1 => (g23 k y13_0 x1_1.1 (0 : Int) (x1_1.1.length : Int)).bind fun x2_4 => jn (fun (z15 : Bool) => if z15 then (some false) else (qC6 k a0 a1 x2_4 k 0)) (fun j15 => if (!decide (x1_1.2 = 0)) then (j15 true) else (if (!decide (x2_4.2.2 = 0)) then (j15 true) else (if (!decide (x2_4.2.1 = (x1_1.1.length : Int))) then (j15 true) else (if (!decide (x2_4.1.f0 = 25)) then (j15 true) else (j15 (!decide ((x2_4.1.f2.n : Int) = (a0.length : Int)))))))))) := rfl
end
end Go.Proofs.Ythpplbkobokghaa.Am
