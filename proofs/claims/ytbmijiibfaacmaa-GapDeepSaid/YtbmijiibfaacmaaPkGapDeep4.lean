/- LawGapDeep, part 4: whatever the input, the law comes out true: our texts, joined by a tool, without what the claim does not name. -/
import Derived.Test.YtbmijiibfaacmaaPkGapDeep3
import Derived.SizedLaws
import Derived.ChangeSlices
import Derived.Below
import Derived.Test.YtbmijiibfaacmaaRows
import Derived.WalkKit
import Derived.ProofKit
import Derived.OpenShut
import Derived.ShutString
import Derived.ChangeOld
set_option maxRecDepth 100000
set_option linter.unusedVariables false
namespace Go.Proofs.Ytbmijiibfaacmaa.Am
noncomputable section
open Go
theorem g49_ok (k : Nat) (a0 : (List Nat)) (a1 : (List S46)) (a2 : Int) (r : Int) (h : g49 k a0 a1 a2 = some r) : PureOk Try.prog 49 [.str a0, .vec (a1).length 3 ((a1).flatMap e47), .int .i64 a2] (.int .i64 r) := by
 refine pure_of X49 (fun _ => rfl) Try.func49 (by decide +kernel) (by kernel_rfl) (t := g49 k a0 a1 a2) ?_ h
 unfold g49
 refine oE (eE := [(0, .str a0), (1, .vec (a1).length 3 ((a1).flatMap e47)), (2, .int .i64 a2)]) (by kernel_rfl) ?_
 refine oR 6 (p' := g49p1) (eE := [(6, .int .i64 0), (0, .str a0), (1, .vec (a1).length 3 ((a1).flatMap e47)), (2, .int .i64 a2)]) (H' := (mkH [])) (by kernel_rfl) ?_
 refine oJ (f := fun (z4 : Bool) => if z4 then (some (0 : Int)) else ((nthL a1 (fW .i64 (a2 - 1))).bind fun x1_3 => (g38 k (⟨x1_3.f0, x1_3.f1, x1_3.f2⟩ : S46)).bind fun x1_5 => g49_l5 k a0 a1 a2 k x1_5 0)) g49p2 (fun (z4 : Bool) => [(0, .str a0), (1, .vec (a1).length 3 ((a1).flatMap e47)), (2, .int .i64 a2), (50, .bool z4)]) (fun (z4 : Bool) => (mkH [])) (fun z4 => ?_) (fun j4 hj4 => ?_)
 ·refine oS 50 (b := z4) (by kernel_rfl) (fun hb => ?_) (fun hb => ?_)
  ·let E1 : Env := [(6, .int .i64 0), (50, .bool true), (0, .str a0), (1, .vec (a1).length 3 ((a1).flatMap e47)), (2, .int .i64 a2), (50, .bool z4)]
   refine oR 6 (p' := .fin) (eE := E1) (H' := (mkH [])) (by kernel_rfl) ?_
   exact oT (r := (0 : Int)) (xs := [.int .i64 0]) (v := .int .i64 0) (by kernel_rfl) (by kernel_rfl) (by kernel_rfl) (.pures (by kernel_rfl)) (by kernel_rfl)
  ·let E2 : Env := [(54, .int .i64 (fW .i64 (a2 - 1))), (53, .int .i64 a2), (52, .vec (a1).length 3 ((a1).flatMap e47)), (8, .func 67 [] [.ptr 0 1 0]), (51, .func 67 [] [.ptr 0 1 0]), (7, .ptr 0 1 0), (50, .bool false), (0, .str a0), (1, .vec (a1).length 3 ((a1).flatMap e47)), (2, .int .i64 a2), (50, .bool z4)]
   refine oR 18 (p' := (atN 3 (ctl1 g49p7))) (eE := E2) (H' := (mkH [⟨[.int .i64 0], 1, false⟩])) (by kernel_rfl) ?_
   refine oH (fun (x1_3 : S46) => (.vptr [.int .i64 x1_3.f0, .str x1_3.f1, .int .i64 x1_3.f2], (mkH [⟨[.int .i64 0], 1, false⟩]))) (atN 4 (ctl1 g49p7)) (fun x1_3 => ((55, .vptr [.int .i64 x1_3.f0, .str x1_3.f1, .int .i64 x1_3.f2]) :: E2)) (vidxH (sz := 3) e47_len (by kernel_rfl)) (fun _ => by kernel_rfl) (fun x1_3 hx1_3 => ?_)
   refine oR 1 (p' := (atN 5 (ctl1 g49p7))) (eE := ((56, .agg [.int .i64 x1_3.f0, .str x1_3.f1, .int .i64 x1_3.f2]) :: (55, .vptr [.int .i64 x1_3.f0, .str x1_3.f1, .int .i64 x1_3.f2]) :: E2)) (H' := (mkH [⟨[.int .i64 0], 1, false⟩])) (by kernel_rfl) ?_
   refine oC (fun (x1_5 : Int) => .int .i64 x1_5) (atN 6 (ctl1 g49p7)) (fun x1_5 => ((57, .int .i64 x1_5) :: (56, .agg [.int .i64 x1_3.f0, .str x1_3.f1, .int .i64 x1_3.f2]) :: (55, .vptr [.int .i64 x1_3.f0, .str x1_3.f1, .int .i64 x1_3.f2]) :: E2)) (fi := 38) (args := [.agg [.int .i64 x1_3.f0, .str x1_3.f1, .int .i64 x1_3.f2]]) (by kernel_rfl) (by kernel_rfl) (fun _ => by kernel_rfl) (fun r h => g38_ok k (⟨x1_3.f0, x1_3.f1, x1_3.f2⟩ : S46) r h) (fun _ => by kernel_rfl) (fun x1_5 hx1_5 => ?_)
   refine oR 4 (p' := g49p8) (eE := ((9, .int .i64 x1_5) :: (57, .int .i64 x1_5) :: (56, .agg [.int .i64 x1_3.f0, .str x1_3.f1, .int .i64 x1_3.f2]) :: (55, .vptr [.int .i64 x1_3.f0, .str x1_3.f1, .int .i64 x1_3.f2]) :: E2)) (H' := (mkH [⟨[.int .i64 0], 1, false⟩])) (by kernel_rfl) ?_
   refine oK [0, 1, 2, 7, 8, 9] (eE := [(0, .str a0), (1, .vec (a1).length 3 ((a1).flatMap e47)), (2, .int .i64 a2), (7, .ptr 0 1 0), (8, .func 67 [] [.ptr 0 1 0]), (9, .int .i64 x1_5)]) (by kernel_rfl) ?_
   exact (g49_l5_ok k a0 a1 a2 k) x1_5 0
 ·refine ok_if (fun hb4 => ?_) (fun hb4 => ?_)
  ·let E7 : Env := [(12, .bool (decide (a2 < 1))), (11, .bool (decide (a2 < 1))), (10, .int .i64 a2), (6, .int .i64 0), (0, .str a0), (1, .vec (a1).length 3 ((a1).flatMap e47)), (2, .int .i64 a2)]
   let E8 : Env := [(50, .bool true), (49, .tuple []), (48, .tuple []), (47, .tuple []), (46, .tuple []), (45, .tuple []), (44, .tuple []), (43, .tuple []), (42, .tuple []), (41, .tuple []), (40, .tuple []), (39, .tuple []), (38, .tuple []), (37, .bool true), (36, .bool true), (35, .tuple []), (34, .tuple []), (33, .tuple []), (32, .tuple []), (31, .tuple []), (30, .tuple []), (29, .tuple []), (28, .bool true), (27, .bool true), (26, .tuple []), (25, .tuple []), (24, .tuple []), (23, .tuple []), (22, .tuple []), (21, .tuple []), (20, .tuple []), (19, .tuple []), (18, .bool true), (17, .bool true), (16, .tuple []), (15, .tuple []), (14, .tuple []), (13, .tuple []), (12, .bool true), (11, .bool true), (10, .int .i64 a2), (6, .int .i64 0), (0, .str a0), (1, .vec (a1).length 3 ((a1).flatMap e47)), (2, .int .i64 a2)]
   refine ok_draw (p' := nav [0] g49p1) (eE := E8) (H' := (mkH [])) (hs := [(mkH []), (mkH []), (mkH [])]) [(0, 0, 0), (1, 0, 0), (3, 0, 0), (7, 0, 0), (7, 0, 0), (23, 0, 0), (63, 0, 0), (127, 0, 0), (255, 0, 0), (511, 0, 0), (511, 0, 0), (511, 0, 0), (2559, 0, 0), (7679, 0, 0), (15871, 0, 0), (32767, 0, 0), (65535, 0, 0), (131071, 0, 0), (262143, 0, 0), (524287, 0, 0), (524287, 0, 0), (524287, 0, 0), (3670015, 0, 0), (7864319, 1, 1), (16777215, 0, 0), (33554431, 0, 0), (67108863, 0, 0), (134217727, 0, 0), (268435455, 0, 0), (268435455, 0, 0), (805306367, 0, 0), (2147483647, 0, 0), (4294967295, 2, 2), (8589934591, 0, 0), (268435455, 0, 0), (268435455, 0, 0), (51808043007, 0, 0), (120527519743, 0, 0), (257966473215, 2, 3), (549755813887, 0, 0), (1099511627775, 0, 0)] (by kernel_rfl) (by kernel_rfl) (by kernel_rfl) (opsD_run 3 (l' := (opsAt g49p1).toList.drop 3) (eE := E7) (H' := (mkH [])) (hs := []) (by kernel_rfl) (opsD_env (eE := [(12, .bool true), (11, .bool true), (10, .int .i64 a2), (6, .int .i64 0), (0, .str a0), (1, .vec (a1).length 3 ((a1).flatMap e47)), (2, .int .i64 a2)]) (congrArg (fun z : Bool => ([(12, .bool z), (11, .bool z), (10, .int .i64 a2), (6, .int .i64 0), (0, .str a0), (1, .vec (a1).length 3 ((a1).flatMap e47)), (2, .int .i64 a2)] : Env)) hb4) (opsD_run 38 (l' := (opsAt g49p1).toList.drop 41) (eE := E8) (H' := (mkH [])) (hs := [(mkH []), (mkH []), (mkH [])]) (by kernel_rfl) (.nil)))) (by kernel_rfl) (by kernel_rfl) (by kernel_rfl) ?_
   refine oK [0, 1, 2, 50] (eE := [(0, .str a0), (1, .vec (a1).length 3 ((a1).flatMap e47)), (2, .int .i64 a2), (50, .bool true)]) (by kernel_rfl) ?_
   exact hj4 true
  ·refine ok_if (fun hb5 => ?_) (fun hb5 => ?_)
   ·let E7 : Env := [(12, .bool (decide (a2 < 1))), (11, .bool (decide (a2 < 1))), (10, .int .i64 a2), (6, .int .i64 0), (0, .str a0), (1, .vec (a1).length 3 ((a1).flatMap e47)), (2, .int .i64 a2)]
    let E9 : Env := [(18, .bool (decide ((a1.length : Int) ≤ a2))), (17, .bool (decide ((a1.length : Int) ≤ a2))), (16, .bool (decide ((a1.length : Int) ≤ a2))), (15, .int .i64 (a1.length : Int)), (14, .vec (a1).length 3 ((a1).flatMap e47)), (13, .int .i64 a2), (12, .bool false), (11, .bool false), (10, .int .i64 a2), (6, .int .i64 0), (0, .str a0), (1, .vec (a1).length 3 ((a1).flatMap e47)), (2, .int .i64 a2)]
    let E10 : Env := [(50, .bool true), (49, .tuple []), (48, .tuple []), (47, .tuple []), (46, .tuple []), (45, .tuple []), (44, .tuple []), (43, .tuple []), (42, .tuple []), (41, .tuple []), (40, .tuple []), (39, .tuple []), (38, .tuple []), (37, .bool true), (36, .bool true), (35, .tuple []), (34, .tuple []), (33, .tuple []), (32, .tuple []), (31, .tuple []), (30, .tuple []), (29, .tuple []), (28, .bool true), (27, .bool true), (26, .tuple []), (25, .tuple []), (24, .tuple []), (23, .tuple []), (22, .tuple []), (21, .tuple []), (20, .tuple []), (19, .tuple []), (18, .bool true), (17, .bool true), (16, .bool true), (15, .int .i64 (a1.length : Int)), (14, .vec (a1).length 3 ((a1).flatMap e47)), (13, .int .i64 a2), (12, .bool false), (11, .bool false), (10, .int .i64 a2), (6, .int .i64 0), (0, .str a0), (1, .vec (a1).length 3 ((a1).flatMap e47)), (2, .int .i64 a2)]
    refine ok_draw (p' := nav [0] g49p1) (eE := E10) (H' := (mkH [])) (hs := [(mkH []), (mkH []), (mkH [])]) [(0, 0, 0), (1, 0, 0), (3, 0, 0), (7, 0, 0), (7, 0, 0), (23, 0, 0), (63, 0, 0), (127, 0, 0), (255, 0, 0), (511, 0, 0), (511, 0, 0), (511, 0, 0), (2559, 0, 0), (7679, 0, 0), (15871, 0, 0), (32767, 0, 0), (65535, 0, 0), (131071, 0, 0), (262143, 0, 0), (524287, 0, 0), (524287, 0, 0), (524287, 0, 0), (3670015, 0, 0), (7864319, 1, 1), (16777215, 0, 0), (33554431, 0, 0), (67108863, 0, 0), (134217727, 0, 0), (268435455, 0, 0), (268435455, 0, 0), (805306367, 0, 0), (2147483647, 0, 0), (4294967295, 2, 2), (8589934591, 0, 0), (268435455, 0, 0), (268435455, 0, 0), (51808043007, 0, 0), (120527519743, 0, 0), (257966473215, 2, 3), (549755813887, 0, 0), (1099511627775, 0, 0)] (by kernel_rfl) (by kernel_rfl) (by kernel_rfl) (opsD_run 3 (l' := (opsAt g49p1).toList.drop 3) (eE := E7) (H' := (mkH [])) (hs := []) (by kernel_rfl) (opsD_env (eE := [(12, .bool false), (11, .bool false), (10, .int .i64 a2), (6, .int .i64 0), (0, .str a0), (1, .vec (a1).length 3 ((a1).flatMap e47)), (2, .int .i64 a2)]) (congrArg (fun z : Bool => ([(12, .bool z), (11, .bool z), (10, .int .i64 a2), (6, .int .i64 0), (0, .str a0), (1, .vec (a1).length 3 ((a1).flatMap e47)), (2, .int .i64 a2)] : Env)) hb4) (opsD_run 6 (l' := (opsAt g49p1).toList.drop 9) (eE := E9) (H' := (mkH [])) (hs := []) (by kernel_rfl) (opsD_env (eE := [(18, .bool true), (17, .bool true), (16, .bool true), (15, .int .i64 (a1.length : Int)), (14, .vec (a1).length 3 ((a1).flatMap e47)), (13, .int .i64 a2), (12, .bool false), (11, .bool false), (10, .int .i64 a2), (6, .int .i64 0), (0, .str a0), (1, .vec (a1).length 3 ((a1).flatMap e47)), (2, .int .i64 a2)]) (congrArg (fun z : Bool => ([(18, .bool z), (17, .bool z), (16, .bool z), (15, .int .i64 (a1.length : Int)), (14, .vec (a1).length 3 ((a1).flatMap e47)), (13, .int .i64 a2), (12, .bool false), (11, .bool false), (10, .int .i64 a2), (6, .int .i64 0), (0, .str a0), (1, .vec (a1).length 3 ((a1).flatMap e47)), (2, .int .i64 a2)] : Env)) hb5) (opsD_run 32 (l' := (opsAt g49p1).toList.drop 41) (eE := E10) (H' := (mkH [])) (hs := [(mkH []), (mkH []), (mkH [])]) (by kernel_rfl) (.nil)))))) (by kernel_rfl) (by kernel_rfl) (by kernel_rfl) ?_
    refine oK [0, 1, 2, 50] (eE := [(0, .str a0), (1, .vec (a1).length 3 ((a1).flatMap e47)), (2, .int .i64 a2), (50, .bool true)]) (by kernel_rfl) ?_
    exact hj4 true
   ·refine ok_bind (fun x0_13 hx0_13 => ?_)
    refine ok_bind (fun x0_15 hx0_15 => ?_)
    refine ok_if (fun hb6 => ?_) (fun hb6 => ?_)
    ·let E7 : Env := [(12, .bool (decide (a2 < 1))), (11, .bool (decide (a2 < 1))), (10, .int .i64 a2), (6, .int .i64 0), (0, .str a0), (1, .vec (a1).length 3 ((a1).flatMap e47)), (2, .int .i64 a2)]
     let E9 : Env := [(18, .bool (decide ((a1.length : Int) ≤ a2))), (17, .bool (decide ((a1.length : Int) ≤ a2))), (16, .bool (decide ((a1.length : Int) ≤ a2))), (15, .int .i64 (a1.length : Int)), (14, .vec (a1).length 3 ((a1).flatMap e47)), (13, .int .i64 a2), (12, .bool false), (11, .bool false), (10, .int .i64 a2), (6, .int .i64 0), (0, .str a0), (1, .vec (a1).length 3 ((a1).flatMap e47)), (2, .int .i64 a2)]
     let E11 : Env := [(22, .int .i64 (fW .i64 (a2 - 1))), (21, .int .i64 a2), (20, .vec (a1).length 3 ((a1).flatMap e47)), (19, .str a0), (18, .bool false), (17, .bool false), (16, .bool false), (15, .int .i64 (a1.length : Int)), (14, .vec (a1).length 3 ((a1).flatMap e47)), (13, .int .i64 a2), (12, .bool false), (11, .bool false), (10, .int .i64 a2), (6, .int .i64 0), (0, .str a0), (1, .vec (a1).length 3 ((a1).flatMap e47)), (2, .int .i64 a2)]
     let E12 : Env := ((28, .bool (!x0_15)) :: (27, .bool (!x0_15)) :: (26, .bool (!x0_15)) :: (25, .bool x0_15) :: (24, .agg [.int .i64 x0_13.f0, .str x0_13.f1, .int .i64 x0_13.f2]) :: (23, .vptr [.int .i64 x0_13.f0, .str x0_13.f1, .int .i64 x0_13.f2]) :: E11)
     let E13 : Env := [(50, .bool true), (49, .tuple []), (48, .tuple []), (47, .tuple []), (46, .tuple []), (45, .tuple []), (44, .tuple []), (43, .tuple []), (42, .tuple []), (41, .tuple []), (40, .tuple []), (39, .tuple []), (38, .tuple []), (37, .bool true), (36, .bool true), (35, .tuple []), (34, .tuple []), (33, .tuple []), (32, .tuple []), (31, .tuple []), (30, .tuple []), (29, .tuple []), (28, .bool true), (27, .bool true), (26, .bool true), (25, .bool x0_15), (24, .agg [.int .i64 x0_13.f0, .str x0_13.f1, .int .i64 x0_13.f2]), (23, .vptr [.int .i64 x0_13.f0, .str x0_13.f1, .int .i64 x0_13.f2]), (22, .int .i64 (fW .i64 (a2 - 1))), (21, .int .i64 a2), (20, .vec (a1).length 3 ((a1).flatMap e47)), (19, .str a0), (18, .bool false), (17, .bool false), (16, .bool false), (15, .int .i64 (a1.length : Int)), (14, .vec (a1).length 3 ((a1).flatMap e47)), (13, .int .i64 a2), (12, .bool false), (11, .bool false), (10, .int .i64 a2), (6, .int .i64 0), (0, .str a0), (1, .vec (a1).length 3 ((a1).flatMap e47)), (2, .int .i64 a2)]
     refine ok_draw (p' := nav [0] g49p1) (eE := E13) (H' := (mkH [])) (hs := [(mkH []), (mkH []), (mkH [])]) [(0, 0, 0), (1, 0, 0), (3, 0, 0), (7, 0, 0), (7, 0, 0), (23, 0, 0), (63, 0, 0), (127, 0, 0), (255, 0, 0), (511, 0, 0), (511, 0, 0), (511, 0, 0), (2559, 0, 0), (7679, 0, 0), (15871, 0, 0), (32767, 0, 0), (65535, 0, 0), (131071, 0, 0), (262143, 0, 0), (524287, 0, 0), (524287, 0, 0), (524287, 0, 0), (3670015, 0, 0), (7864319, 1, 1), (16777215, 0, 0), (33554431, 0, 0), (67108863, 0, 0), (134217727, 0, 0), (268435455, 0, 0), (268435455, 0, 0), (805306367, 0, 0), (2147483647, 0, 0), (4294967295, 2, 2), (8589934591, 0, 0), (268435455, 0, 0), (268435455, 0, 0), (51808043007, 0, 0), (120527519743, 0, 0), (257966473215, 2, 3), (549755813887, 0, 0), (1099511627775, 0, 0)] (by kernel_rfl) (by kernel_rfl) (by kernel_rfl) (opsD_run 3 (l' := (opsAt g49p1).toList.drop 3) (eE := E7) (H' := (mkH [])) (hs := []) (by kernel_rfl) (opsD_env (eE := [(12, .bool false), (11, .bool false), (10, .int .i64 a2), (6, .int .i64 0), (0, .str a0), (1, .vec (a1).length 3 ((a1).flatMap e47)), (2, .int .i64 a2)]) (congrArg (fun z : Bool => ([(12, .bool z), (11, .bool z), (10, .int .i64 a2), (6, .int .i64 0), (0, .str a0), (1, .vec (a1).length 3 ((a1).flatMap e47)), (2, .int .i64 a2)] : Env)) hb4) (opsD_run 6 (l' := (opsAt g49p1).toList.drop 9) (eE := E9) (H' := (mkH [])) (hs := []) (by kernel_rfl) (opsD_env (eE := [(18, .bool false), (17, .bool false), (16, .bool false), (15, .int .i64 (a1.length : Int)), (14, .vec (a1).length 3 ((a1).flatMap e47)), (13, .int .i64 a2), (12, .bool false), (11, .bool false), (10, .int .i64 a2), (6, .int .i64 0), (0, .str a0), (1, .vec (a1).length 3 ((a1).flatMap e47)), (2, .int .i64 a2)]) (congrArg (fun z : Bool => ([(18, .bool z), (17, .bool z), (16, .bool z), (15, .int .i64 (a1.length : Int)), (14, .vec (a1).length 3 ((a1).flatMap e47)), (13, .int .i64 a2), (12, .bool false), (11, .bool false), (10, .int .i64 a2), (6, .int .i64 0), (0, .str a0), (1, .vec (a1).length 3 ((a1).flatMap e47)), (2, .int .i64 a2)] : Env)) hb5) (opsD_run 4 (l' := (opsAt g49p1).toList.drop 13) (eE := E11) (H' := (mkH [])) (hs := []) (by kernel_rfl) (opsD_chk (l' := (opsAt g49p1).toList.drop 14) (eE := ((23, .vptr [.int .i64 x0_13.f0, .str x0_13.f1, .int .i64 x0_13.f2]) :: E11)) (hs := []) (x := x0_13) (fun (x0_13 : S46) => (.vptr [.int .i64 x0_13.f0, .str x0_13.f1, .int .i64 x0_13.f2], (mkH []))) (vidxH (sz := 3) e47_len (by kernel_rfl)) hx0_13 (by kernel_rfl) (opsD_run 1 (l' := (opsAt g49p1).toList.drop 15) (eE := ((24, .agg [.int .i64 x0_13.f0, .str x0_13.f1, .int .i64 x0_13.f2]) :: (23, .vptr [.int .i64 x0_13.f0, .str x0_13.f1, .int .i64 x0_13.f2]) :: E11)) (H' := (mkH [])) (hs := []) (by kernel_rfl) (opsD_call (l' := (opsAt g49p1).toList.drop 16) (eE := ((25, .bool x0_15) :: (24, .agg [.int .i64 x0_13.f0, .str x0_13.f1, .int .i64 x0_13.f2]) :: (23, .vptr [.int .i64 x0_13.f0, .str x0_13.f1, .int .i64 x0_13.f2]) :: E11)) (hs := [(mkH [])]) (fi := 66) (args := [.str a0, .agg [.int .i64 x0_13.f0, .str x0_13.f1, .int .i64 x0_13.f2]]) (v := .bool x0_15) (by kernel_rfl) (by kernel_rfl) (by kernel_rfl) (g66_ok k a0 (⟨x0_13.f0, x0_13.f1, x0_13.f2⟩ : S46) x0_15 hx0_15) (by kernel_rfl) (opsD_run 3 (l' := (opsAt g49p1).toList.drop 19) (eE := E12) (H' := (mkH [])) (hs := []) (by kernel_rfl) (opsD_env (eE := [(28, .bool true), (27, .bool true), (26, .bool true), (25, .bool x0_15), (24, .agg [.int .i64 x0_13.f0, .str x0_13.f1, .int .i64 x0_13.f2]), (23, .vptr [.int .i64 x0_13.f0, .str x0_13.f1, .int .i64 x0_13.f2]), (22, .int .i64 (fW .i64 (a2 - 1))), (21, .int .i64 a2), (20, .vec (a1).length 3 ((a1).flatMap e47)), (19, .str a0), (18, .bool false), (17, .bool false), (16, .bool false), (15, .int .i64 (a1.length : Int)), (14, .vec (a1).length 3 ((a1).flatMap e47)), (13, .int .i64 a2), (12, .bool false), (11, .bool false), (10, .int .i64 a2), (6, .int .i64 0), (0, .str a0), (1, .vec (a1).length 3 ((a1).flatMap e47)), (2, .int .i64 a2)]) (congrArg (fun z : Bool => ([(28, .bool z), (27, .bool z), (26, .bool z), (25, .bool x0_15), (24, .agg [.int .i64 x0_13.f0, .str x0_13.f1, .int .i64 x0_13.f2]), (23, .vptr [.int .i64 x0_13.f0, .str x0_13.f1, .int .i64 x0_13.f2]), (22, .int .i64 (fW .i64 (a2 - 1))), (21, .int .i64 a2), (20, .vec (a1).length 3 ((a1).flatMap e47)), (19, .str a0), (18, .bool false), (17, .bool false), (16, .bool false), (15, .int .i64 (a1.length : Int)), (14, .vec (a1).length 3 ((a1).flatMap e47)), (13, .int .i64 a2), (12, .bool false), (11, .bool false), (10, .int .i64 a2), (6, .int .i64 0), (0, .str a0), (1, .vec (a1).length 3 ((a1).flatMap e47)), (2, .int .i64 a2)] : Env)) hb6) (opsD_run 22 (l' := (opsAt g49p1).toList.drop 41) (eE := E13) (H' := (mkH [])) (hs := [(mkH []), (mkH [])]) (by kernel_rfl) (.nil)))))))))))) (by kernel_rfl) (by kernel_rfl) (by kernel_rfl) ?_
     refine oK [0, 1, 2, 50] (eE := [(0, .str a0), (1, .vec (a1).length 3 ((a1).flatMap e47)), (2, .int .i64 a2), (50, .bool true)]) (by kernel_rfl) ?_
     exact hj4 true
    ·refine ok_bind (fun x0_22 hx0_22 => ?_)
     refine ok_bind (fun x0_24 hx0_24 => ?_)
     refine ok_if (fun hb7 => ?_) (fun hb7 => ?_)
     ·let E7 : Env := [(12, .bool (decide (a2 < 1))), (11, .bool (decide (a2 < 1))), (10, .int .i64 a2), (6, .int .i64 0), (0, .str a0), (1, .vec (a1).length 3 ((a1).flatMap e47)), (2, .int .i64 a2)]
      let E9 : Env := [(18, .bool (decide ((a1.length : Int) ≤ a2))), (17, .bool (decide ((a1.length : Int) ≤ a2))), (16, .bool (decide ((a1.length : Int) ≤ a2))), (15, .int .i64 (a1.length : Int)), (14, .vec (a1).length 3 ((a1).flatMap e47)), (13, .int .i64 a2), (12, .bool false), (11, .bool false), (10, .int .i64 a2), (6, .int .i64 0), (0, .str a0), (1, .vec (a1).length 3 ((a1).flatMap e47)), (2, .int .i64 a2)]
      let E11 : Env := [(22, .int .i64 (fW .i64 (a2 - 1))), (21, .int .i64 a2), (20, .vec (a1).length 3 ((a1).flatMap e47)), (19, .str a0), (18, .bool false), (17, .bool false), (16, .bool false), (15, .int .i64 (a1.length : Int)), (14, .vec (a1).length 3 ((a1).flatMap e47)), (13, .int .i64 a2), (12, .bool false), (11, .bool false), (10, .int .i64 a2), (6, .int .i64 0), (0, .str a0), (1, .vec (a1).length 3 ((a1).flatMap e47)), (2, .int .i64 a2)]
      let E12 : Env := ((28, .bool (!x0_15)) :: (27, .bool (!x0_15)) :: (26, .bool (!x0_15)) :: (25, .bool x0_15) :: (24, .agg [.int .i64 x0_13.f0, .str x0_13.f1, .int .i64 x0_13.f2]) :: (23, .vptr [.int .i64 x0_13.f0, .str x0_13.f1, .int .i64 x0_13.f2]) :: E11)
      let E14 : Env := [(31, .int .i64 a2), (30, .vec (a1).length 3 ((a1).flatMap e47)), (29, .str a0), (28, .bool false), (27, .bool false), (26, .bool false), (25, .bool x0_15), (24, .agg [.int .i64 x0_13.f0, .str x0_13.f1, .int .i64 x0_13.f2]), (23, .vptr [.int .i64 x0_13.f0, .str x0_13.f1, .int .i64 x0_13.f2]), (22, .int .i64 (fW .i64 (a2 - 1))), (21, .int .i64 a2), (20, .vec (a1).length 3 ((a1).flatMap e47)), (19, .str a0), (18, .bool false), (17, .bool false), (16, .bool false), (15, .int .i64 (a1.length : Int)), (14, .vec (a1).length 3 ((a1).flatMap e47)), (13, .int .i64 a2), (12, .bool false), (11, .bool false), (10, .int .i64 a2), (6, .int .i64 0), (0, .str a0), (1, .vec (a1).length 3 ((a1).flatMap e47)), (2, .int .i64 a2)]
      let E15 : Env := ((37, .bool (!x0_24)) :: (36, .bool (!x0_24)) :: (35, .bool (!x0_24)) :: (34, .bool x0_24) :: (33, .agg [.int .i64 x0_22.f0, .str x0_22.f1, .int .i64 x0_22.f2]) :: (32, .vptr [.int .i64 x0_22.f0, .str x0_22.f1, .int .i64 x0_22.f2]) :: E14)
      let E16 : Env := [(50, .bool true), (49, .tuple []), (48, .tuple []), (47, .tuple []), (46, .tuple []), (45, .tuple []), (44, .tuple []), (43, .tuple []), (42, .tuple []), (41, .tuple []), (40, .tuple []), (39, .tuple []), (38, .tuple []), (37, .bool true), (36, .bool true), (35, .bool true), (34, .bool x0_24), (33, .agg [.int .i64 x0_22.f0, .str x0_22.f1, .int .i64 x0_22.f2]), (32, .vptr [.int .i64 x0_22.f0, .str x0_22.f1, .int .i64 x0_22.f2]), (31, .int .i64 a2), (30, .vec (a1).length 3 ((a1).flatMap e47)), (29, .str a0), (28, .bool false), (27, .bool false), (26, .bool false), (25, .bool x0_15), (24, .agg [.int .i64 x0_13.f0, .str x0_13.f1, .int .i64 x0_13.f2]), (23, .vptr [.int .i64 x0_13.f0, .str x0_13.f1, .int .i64 x0_13.f2]), (22, .int .i64 (fW .i64 (a2 - 1))), (21, .int .i64 a2), (20, .vec (a1).length 3 ((a1).flatMap e47)), (19, .str a0), (18, .bool false), (17, .bool false), (16, .bool false), (15, .int .i64 (a1.length : Int)), (14, .vec (a1).length 3 ((a1).flatMap e47)), (13, .int .i64 a2), (12, .bool false), (11, .bool false), (10, .int .i64 a2), (6, .int .i64 0), (0, .str a0), (1, .vec (a1).length 3 ((a1).flatMap e47)), (2, .int .i64 a2)]
      refine ok_draw (p' := nav [0] g49p1) (eE := E16) (H' := (mkH [])) (hs := [(mkH []), (mkH []), (mkH [])]) [(0, 0, 0), (1, 0, 0), (3, 0, 0), (7, 0, 0), (7, 0, 0), (23, 0, 0), (63, 0, 0), (127, 0, 0), (255, 0, 0), (511, 0, 0), (511, 0, 0), (511, 0, 0), (2559, 0, 0), (7679, 0, 0), (15871, 0, 0), (32767, 0, 0), (65535, 0, 0), (131071, 0, 0), (262143, 0, 0), (524287, 0, 0), (524287, 0, 0), (524287, 0, 0), (3670015, 0, 0), (7864319, 1, 1), (16777215, 0, 0), (33554431, 0, 0), (67108863, 0, 0), (134217727, 0, 0), (268435455, 0, 0), (268435455, 0, 0), (805306367, 0, 0), (2147483647, 0, 0), (4294967295, 2, 2), (8589934591, 0, 0), (268435455, 0, 0), (268435455, 0, 0), (51808043007, 0, 0), (120527519743, 0, 0), (257966473215, 2, 3), (549755813887, 0, 0), (1099511627775, 0, 0)] (by kernel_rfl) (by kernel_rfl) (by kernel_rfl) (opsD_run 3 (l' := (opsAt g49p1).toList.drop 3) (eE := E7) (H' := (mkH [])) (hs := []) (by kernel_rfl) (opsD_env (eE := [(12, .bool false), (11, .bool false), (10, .int .i64 a2), (6, .int .i64 0), (0, .str a0), (1, .vec (a1).length 3 ((a1).flatMap e47)), (2, .int .i64 a2)]) (congrArg (fun z : Bool => ([(12, .bool z), (11, .bool z), (10, .int .i64 a2), (6, .int .i64 0), (0, .str a0), (1, .vec (a1).length 3 ((a1).flatMap e47)), (2, .int .i64 a2)] : Env)) hb4) (opsD_run 6 (l' := (opsAt g49p1).toList.drop 9) (eE := E9) (H' := (mkH [])) (hs := []) (by kernel_rfl) (opsD_env (eE := [(18, .bool false), (17, .bool false), (16, .bool false), (15, .int .i64 (a1.length : Int)), (14, .vec (a1).length 3 ((a1).flatMap e47)), (13, .int .i64 a2), (12, .bool false), (11, .bool false), (10, .int .i64 a2), (6, .int .i64 0), (0, .str a0), (1, .vec (a1).length 3 ((a1).flatMap e47)), (2, .int .i64 a2)]) (congrArg (fun z : Bool => ([(18, .bool z), (17, .bool z), (16, .bool z), (15, .int .i64 (a1.length : Int)), (14, .vec (a1).length 3 ((a1).flatMap e47)), (13, .int .i64 a2), (12, .bool false), (11, .bool false), (10, .int .i64 a2), (6, .int .i64 0), (0, .str a0), (1, .vec (a1).length 3 ((a1).flatMap e47)), (2, .int .i64 a2)] : Env)) hb5) (opsD_run 4 (l' := (opsAt g49p1).toList.drop 13) (eE := E11) (H' := (mkH [])) (hs := []) (by kernel_rfl) (opsD_chk (l' := (opsAt g49p1).toList.drop 14) (eE := ((23, .vptr [.int .i64 x0_13.f0, .str x0_13.f1, .int .i64 x0_13.f2]) :: E11)) (hs := []) (x := x0_13) (fun (x0_13 : S46) => (.vptr [.int .i64 x0_13.f0, .str x0_13.f1, .int .i64 x0_13.f2], (mkH []))) (vidxH (sz := 3) e47_len (by kernel_rfl)) hx0_13 (by kernel_rfl) (opsD_run 1 (l' := (opsAt g49p1).toList.drop 15) (eE := ((24, .agg [.int .i64 x0_13.f0, .str x0_13.f1, .int .i64 x0_13.f2]) :: (23, .vptr [.int .i64 x0_13.f0, .str x0_13.f1, .int .i64 x0_13.f2]) :: E11)) (H' := (mkH [])) (hs := []) (by kernel_rfl) (opsD_call (l' := (opsAt g49p1).toList.drop 16) (eE := ((25, .bool x0_15) :: (24, .agg [.int .i64 x0_13.f0, .str x0_13.f1, .int .i64 x0_13.f2]) :: (23, .vptr [.int .i64 x0_13.f0, .str x0_13.f1, .int .i64 x0_13.f2]) :: E11)) (hs := [(mkH [])]) (fi := 66) (args := [.str a0, .agg [.int .i64 x0_13.f0, .str x0_13.f1, .int .i64 x0_13.f2]]) (v := .bool x0_15) (by kernel_rfl) (by kernel_rfl) (by kernel_rfl) (g66_ok k a0 (⟨x0_13.f0, x0_13.f1, x0_13.f2⟩ : S46) x0_15 hx0_15) (by kernel_rfl) (opsD_run 3 (l' := (opsAt g49p1).toList.drop 19) (eE := E12) (H' := (mkH [])) (hs := []) (by kernel_rfl) (opsD_env (eE := [(28, .bool false), (27, .bool false), (26, .bool false), (25, .bool x0_15), (24, .agg [.int .i64 x0_13.f0, .str x0_13.f1, .int .i64 x0_13.f2]), (23, .vptr [.int .i64 x0_13.f0, .str x0_13.f1, .int .i64 x0_13.f2]), (22, .int .i64 (fW .i64 (a2 - 1))), (21, .int .i64 a2), (20, .vec (a1).length 3 ((a1).flatMap e47)), (19, .str a0), (18, .bool false), (17, .bool false), (16, .bool false), (15, .int .i64 (a1.length : Int)), (14, .vec (a1).length 3 ((a1).flatMap e47)), (13, .int .i64 a2), (12, .bool false), (11, .bool false), (10, .int .i64 a2), (6, .int .i64 0), (0, .str a0), (1, .vec (a1).length 3 ((a1).flatMap e47)), (2, .int .i64 a2)]) (congrArg (fun z : Bool => ([(28, .bool z), (27, .bool z), (26, .bool z), (25, .bool x0_15), (24, .agg [.int .i64 x0_13.f0, .str x0_13.f1, .int .i64 x0_13.f2]), (23, .vptr [.int .i64 x0_13.f0, .str x0_13.f1, .int .i64 x0_13.f2]), (22, .int .i64 (fW .i64 (a2 - 1))), (21, .int .i64 a2), (20, .vec (a1).length 3 ((a1).flatMap e47)), (19, .str a0), (18, .bool false), (17, .bool false), (16, .bool false), (15, .int .i64 (a1.length : Int)), (14, .vec (a1).length 3 ((a1).flatMap e47)), (13, .int .i64 a2), (12, .bool false), (11, .bool false), (10, .int .i64 a2), (6, .int .i64 0), (0, .str a0), (1, .vec (a1).length 3 ((a1).flatMap e47)), (2, .int .i64 a2)] : Env)) hb6) (opsD_run 3 (l' := (opsAt g49p1).toList.drop 22) (eE := E14) (H' := (mkH [])) (hs := []) (by kernel_rfl) (opsD_chk (l' := (opsAt g49p1).toList.drop 23) (eE := ((32, .vptr [.int .i64 x0_22.f0, .str x0_22.f1, .int .i64 x0_22.f2]) :: E14)) (hs := []) (x := x0_22) (fun (x0_22 : S46) => (.vptr [.int .i64 x0_22.f0, .str x0_22.f1, .int .i64 x0_22.f2], (mkH []))) (vidxH (sz := 3) e47_len (by kernel_rfl)) hx0_22 (by kernel_rfl) (opsD_run 1 (l' := (opsAt g49p1).toList.drop 24) (eE := ((33, .agg [.int .i64 x0_22.f0, .str x0_22.f1, .int .i64 x0_22.f2]) :: (32, .vptr [.int .i64 x0_22.f0, .str x0_22.f1, .int .i64 x0_22.f2]) :: E14)) (H' := (mkH [])) (hs := []) (by kernel_rfl) (opsD_call (l' := (opsAt g49p1).toList.drop 25) (eE := ((34, .bool x0_24) :: (33, .agg [.int .i64 x0_22.f0, .str x0_22.f1, .int .i64 x0_22.f2]) :: (32, .vptr [.int .i64 x0_22.f0, .str x0_22.f1, .int .i64 x0_22.f2]) :: E14)) (hs := [(mkH [])]) (fi := 66) (args := [.str a0, .agg [.int .i64 x0_22.f0, .str x0_22.f1, .int .i64 x0_22.f2]]) (v := .bool x0_24) (by kernel_rfl) (by kernel_rfl) (by kernel_rfl) (g66_ok k a0 (⟨x0_22.f0, x0_22.f1, x0_22.f2⟩ : S46) x0_24 hx0_24) (by kernel_rfl) (opsD_run 3 (l' := (opsAt g49p1).toList.drop 28) (eE := E15) (H' := (mkH [])) (hs := []) (by kernel_rfl) (opsD_env (eE := [(37, .bool true), (36, .bool true), (35, .bool true), (34, .bool x0_24), (33, .agg [.int .i64 x0_22.f0, .str x0_22.f1, .int .i64 x0_22.f2]), (32, .vptr [.int .i64 x0_22.f0, .str x0_22.f1, .int .i64 x0_22.f2]), (31, .int .i64 a2), (30, .vec (a1).length 3 ((a1).flatMap e47)), (29, .str a0), (28, .bool false), (27, .bool false), (26, .bool false), (25, .bool x0_15), (24, .agg [.int .i64 x0_13.f0, .str x0_13.f1, .int .i64 x0_13.f2]), (23, .vptr [.int .i64 x0_13.f0, .str x0_13.f1, .int .i64 x0_13.f2]), (22, .int .i64 (fW .i64 (a2 - 1))), (21, .int .i64 a2), (20, .vec (a1).length 3 ((a1).flatMap e47)), (19, .str a0), (18, .bool false), (17, .bool false), (16, .bool false), (15, .int .i64 (a1.length : Int)), (14, .vec (a1).length 3 ((a1).flatMap e47)), (13, .int .i64 a2), (12, .bool false), (11, .bool false), (10, .int .i64 a2), (6, .int .i64 0), (0, .str a0), (1, .vec (a1).length 3 ((a1).flatMap e47)), (2, .int .i64 a2)]) (congrArg (fun z : Bool => ([(37, .bool z), (36, .bool z), (35, .bool z), (34, .bool x0_24), (33, .agg [.int .i64 x0_22.f0, .str x0_22.f1, .int .i64 x0_22.f2]), (32, .vptr [.int .i64 x0_22.f0, .str x0_22.f1, .int .i64 x0_22.f2]), (31, .int .i64 a2), (30, .vec (a1).length 3 ((a1).flatMap e47)), (29, .str a0), (28, .bool false), (27, .bool false), (26, .bool false), (25, .bool x0_15), (24, .agg [.int .i64 x0_13.f0, .str x0_13.f1, .int .i64 x0_13.f2]), (23, .vptr [.int .i64 x0_13.f0, .str x0_13.f1, .int .i64 x0_13.f2]), (22, .int .i64 (fW .i64 (a2 - 1))), (21, .int .i64 a2), (20, .vec (a1).length 3 ((a1).flatMap e47)), (19, .str a0), (18, .bool false), (17, .bool false), (16, .bool false), (15, .int .i64 (a1.length : Int)), (14, .vec (a1).length 3 ((a1).flatMap e47)), (13, .int .i64 a2), (12, .bool false), (11, .bool false), (10, .int .i64 a2), (6, .int .i64 0), (0, .str a0), (1, .vec (a1).length 3 ((a1).flatMap e47)), (2, .int .i64 a2)] : Env)) hb7) (opsD_run 13 (l' := (opsAt g49p1).toList.drop 41) (eE := E16) (H' := (mkH [])) (hs := [(mkH [])]) (by kernel_rfl) (.nil)))))))))))))))))) (by kernel_rfl) (by kernel_rfl) (by kernel_rfl) ?_
      refine oK [0, 1, 2, 50] (eE := [(0, .str a0), (1, .vec (a1).length 3 ((a1).flatMap e47)), (2, .int .i64 a2), (50, .bool true)]) (by kernel_rfl) ?_
      exact hj4 true
     ·refine ok_bind (fun x0_31 hx0_31 => ?_)
      refine ok_bind (fun x0_33 hx0_33 => ?_)
      refine ok_bind (fun x0_36 hx0_36 => ?_)
      let E7 : Env := [(12, .bool (decide (a2 < 1))), (11, .bool (decide (a2 < 1))), (10, .int .i64 a2), (6, .int .i64 0), (0, .str a0), (1, .vec (a1).length 3 ((a1).flatMap e47)), (2, .int .i64 a2)]
      let E9 : Env := [(18, .bool (decide ((a1.length : Int) ≤ a2))), (17, .bool (decide ((a1.length : Int) ≤ a2))), (16, .bool (decide ((a1.length : Int) ≤ a2))), (15, .int .i64 (a1.length : Int)), (14, .vec (a1).length 3 ((a1).flatMap e47)), (13, .int .i64 a2), (12, .bool false), (11, .bool false), (10, .int .i64 a2), (6, .int .i64 0), (0, .str a0), (1, .vec (a1).length 3 ((a1).flatMap e47)), (2, .int .i64 a2)]
      let E11 : Env := [(22, .int .i64 (fW .i64 (a2 - 1))), (21, .int .i64 a2), (20, .vec (a1).length 3 ((a1).flatMap e47)), (19, .str a0), (18, .bool false), (17, .bool false), (16, .bool false), (15, .int .i64 (a1.length : Int)), (14, .vec (a1).length 3 ((a1).flatMap e47)), (13, .int .i64 a2), (12, .bool false), (11, .bool false), (10, .int .i64 a2), (6, .int .i64 0), (0, .str a0), (1, .vec (a1).length 3 ((a1).flatMap e47)), (2, .int .i64 a2)]
      let E12 : Env := ((28, .bool (!x0_15)) :: (27, .bool (!x0_15)) :: (26, .bool (!x0_15)) :: (25, .bool x0_15) :: (24, .agg [.int .i64 x0_13.f0, .str x0_13.f1, .int .i64 x0_13.f2]) :: (23, .vptr [.int .i64 x0_13.f0, .str x0_13.f1, .int .i64 x0_13.f2]) :: E11)
      let E14 : Env := [(31, .int .i64 a2), (30, .vec (a1).length 3 ((a1).flatMap e47)), (29, .str a0), (28, .bool false), (27, .bool false), (26, .bool false), (25, .bool x0_15), (24, .agg [.int .i64 x0_13.f0, .str x0_13.f1, .int .i64 x0_13.f2]), (23, .vptr [.int .i64 x0_13.f0, .str x0_13.f1, .int .i64 x0_13.f2]), (22, .int .i64 (fW .i64 (a2 - 1))), (21, .int .i64 a2), (20, .vec (a1).length 3 ((a1).flatMap e47)), (19, .str a0), (18, .bool false), (17, .bool false), (16, .bool false), (15, .int .i64 (a1.length : Int)), (14, .vec (a1).length 3 ((a1).flatMap e47)), (13, .int .i64 a2), (12, .bool false), (11, .bool false), (10, .int .i64 a2), (6, .int .i64 0), (0, .str a0), (1, .vec (a1).length 3 ((a1).flatMap e47)), (2, .int .i64 a2)]
      let E15 : Env := ((37, .bool (!x0_24)) :: (36, .bool (!x0_24)) :: (35, .bool (!x0_24)) :: (34, .bool x0_24) :: (33, .agg [.int .i64 x0_22.f0, .str x0_22.f1, .int .i64 x0_22.f2]) :: (32, .vptr [.int .i64 x0_22.f0, .str x0_22.f1, .int .i64 x0_22.f2]) :: E14)
      let E17 : Env := [(40, .int .i64 (fW .i64 (a2 - 1))), (39, .int .i64 a2), (38, .vec (a1).length 3 ((a1).flatMap e47)), (37, .bool false), (36, .bool false), (35, .bool false), (34, .bool x0_24), (33, .agg [.int .i64 x0_22.f0, .str x0_22.f1, .int .i64 x0_22.f2]), (32, .vptr [.int .i64 x0_22.f0, .str x0_22.f1, .int .i64 x0_22.f2]), (31, .int .i64 a2), (30, .vec (a1).length 3 ((a1).flatMap e47)), (29, .str a0), (28, .bool false), (27, .bool false), (26, .bool false), (25, .bool x0_15), (24, .agg [.int .i64 x0_13.f0, .str x0_13.f1, .int .i64 x0_13.f2]), (23, .vptr [.int .i64 x0_13.f0, .str x0_13.f1, .int .i64 x0_13.f2]), (22, .int .i64 (fW .i64 (a2 - 1))), (21, .int .i64 a2), (20, .vec (a1).length 3 ((a1).flatMap e47)), (19, .str a0), (18, .bool false), (17, .bool false), (16, .bool false), (15, .int .i64 (a1.length : Int)), (14, .vec (a1).length 3 ((a1).flatMap e47)), (13, .int .i64 a2), (12, .bool false), (11, .bool false), (10, .int .i64 a2), (6, .int .i64 0), (0, .str a0), (1, .vec (a1).length 3 ((a1).flatMap e47)), (2, .int .i64 a2)]
      let E18 : Env := ((45, .int .i64 a2) :: (44, .vec (a1).length 3 ((a1).flatMap e47)) :: (43, .int .i64 x0_33) :: (42, .agg [.int .i64 x0_31.f0, .str x0_31.f1, .int .i64 x0_31.f2]) :: (41, .vptr [.int .i64 x0_31.f0, .str x0_31.f1, .int .i64 x0_31.f2]) :: E17)
      let E19 : Env := ((50, .bool (decide (x0_36.f2 < x0_33))) :: (49, .bool (decide (x0_36.f2 < x0_33))) :: (48, .int .i64 x0_36.f2) :: (47, .vptr [.int .i64 x0_36.f2]) :: (46, .vptr [.int .i64 x0_36.f0, .str x0_36.f1, .int .i64 x0_36.f2]) :: E18)
      refine ok_draw (p' := nav [0] g49p1) (eE := E19) (H' := (mkH [])) (hs := [(mkH []), (mkH []), (mkH [])]) [(0, 0, 0), (1, 0, 0), (3, 0, 0), (7, 0, 0), (7, 0, 0), (23, 0, 0), (63, 0, 0), (127, 0, 0), (255, 0, 0), (511, 0, 0), (511, 0, 0), (511, 0, 0), (2559, 0, 0), (7679, 0, 0), (15871, 0, 0), (32767, 0, 0), (65535, 0, 0), (131071, 0, 0), (262143, 0, 0), (524287, 0, 0), (524287, 0, 0), (524287, 0, 0), (3670015, 0, 0), (7864319, 1, 1), (16777215, 0, 0), (33554431, 0, 0), (67108863, 0, 0), (134217727, 0, 0), (268435455, 0, 0), (268435455, 0, 0), (805306367, 0, 0), (2147483647, 0, 0), (4294967295, 2, 2), (8589934591, 0, 0), (268435455, 0, 0), (268435455, 0, 0), (51808043007, 0, 0), (120527519743, 0, 0), (257966473215, 2, 3), (549755813887, 0, 0), (1099511627775, 0, 0)] (by kernel_rfl) (by kernel_rfl) (by kernel_rfl) (opsD_run 3 (l' := (opsAt g49p1).toList.drop 3) (eE := E7) (H' := (mkH [])) (hs := []) (by kernel_rfl) (opsD_env (eE := [(12, .bool false), (11, .bool false), (10, .int .i64 a2), (6, .int .i64 0), (0, .str a0), (1, .vec (a1).length 3 ((a1).flatMap e47)), (2, .int .i64 a2)]) (congrArg (fun z : Bool => ([(12, .bool z), (11, .bool z), (10, .int .i64 a2), (6, .int .i64 0), (0, .str a0), (1, .vec (a1).length 3 ((a1).flatMap e47)), (2, .int .i64 a2)] : Env)) hb4) (opsD_run 6 (l' := (opsAt g49p1).toList.drop 9) (eE := E9) (H' := (mkH [])) (hs := []) (by kernel_rfl) (opsD_env (eE := [(18, .bool false), (17, .bool false), (16, .bool false), (15, .int .i64 (a1.length : Int)), (14, .vec (a1).length 3 ((a1).flatMap e47)), (13, .int .i64 a2), (12, .bool false), (11, .bool false), (10, .int .i64 a2), (6, .int .i64 0), (0, .str a0), (1, .vec (a1).length 3 ((a1).flatMap e47)), (2, .int .i64 a2)]) (congrArg (fun z : Bool => ([(18, .bool z), (17, .bool z), (16, .bool z), (15, .int .i64 (a1.length : Int)), (14, .vec (a1).length 3 ((a1).flatMap e47)), (13, .int .i64 a2), (12, .bool false), (11, .bool false), (10, .int .i64 a2), (6, .int .i64 0), (0, .str a0), (1, .vec (a1).length 3 ((a1).flatMap e47)), (2, .int .i64 a2)] : Env)) hb5) (opsD_run 4 (l' := (opsAt g49p1).toList.drop 13) (eE := E11) (H' := (mkH [])) (hs := []) (by kernel_rfl) (opsD_chk (l' := (opsAt g49p1).toList.drop 14) (eE := ((23, .vptr [.int .i64 x0_13.f0, .str x0_13.f1, .int .i64 x0_13.f2]) :: E11)) (hs := []) (x := x0_13) (fun (x0_13 : S46) => (.vptr [.int .i64 x0_13.f0, .str x0_13.f1, .int .i64 x0_13.f2], (mkH []))) (vidxH (sz := 3) e47_len (by kernel_rfl)) hx0_13 (by kernel_rfl) (opsD_run 1 (l' := (opsAt g49p1).toList.drop 15) (eE := ((24, .agg [.int .i64 x0_13.f0, .str x0_13.f1, .int .i64 x0_13.f2]) :: (23, .vptr [.int .i64 x0_13.f0, .str x0_13.f1, .int .i64 x0_13.f2]) :: E11)) (H' := (mkH [])) (hs := []) (by kernel_rfl) (opsD_call (l' := (opsAt g49p1).toList.drop 16) (eE := ((25, .bool x0_15) :: (24, .agg [.int .i64 x0_13.f0, .str x0_13.f1, .int .i64 x0_13.f2]) :: (23, .vptr [.int .i64 x0_13.f0, .str x0_13.f1, .int .i64 x0_13.f2]) :: E11)) (hs := [(mkH [])]) (fi := 66) (args := [.str a0, .agg [.int .i64 x0_13.f0, .str x0_13.f1, .int .i64 x0_13.f2]]) (v := .bool x0_15) (by kernel_rfl) (by kernel_rfl) (by kernel_rfl) (g66_ok k a0 (⟨x0_13.f0, x0_13.f1, x0_13.f2⟩ : S46) x0_15 hx0_15) (by kernel_rfl) (opsD_run 3 (l' := (opsAt g49p1).toList.drop 19) (eE := E12) (H' := (mkH [])) (hs := []) (by kernel_rfl) (opsD_env (eE := [(28, .bool false), (27, .bool false), (26, .bool false), (25, .bool x0_15), (24, .agg [.int .i64 x0_13.f0, .str x0_13.f1, .int .i64 x0_13.f2]), (23, .vptr [.int .i64 x0_13.f0, .str x0_13.f1, .int .i64 x0_13.f2]), (22, .int .i64 (fW .i64 (a2 - 1))), (21, .int .i64 a2), (20, .vec (a1).length 3 ((a1).flatMap e47)), (19, .str a0), (18, .bool false), (17, .bool false), (16, .bool false), (15, .int .i64 (a1.length : Int)), (14, .vec (a1).length 3 ((a1).flatMap e47)), (13, .int .i64 a2), (12, .bool false), (11, .bool false), (10, .int .i64 a2), (6, .int .i64 0), (0, .str a0), (1, .vec (a1).length 3 ((a1).flatMap e47)), (2, .int .i64 a2)]) (congrArg (fun z : Bool => ([(28, .bool z), (27, .bool z), (26, .bool z), (25, .bool x0_15), (24, .agg [.int .i64 x0_13.f0, .str x0_13.f1, .int .i64 x0_13.f2]), (23, .vptr [.int .i64 x0_13.f0, .str x0_13.f1, .int .i64 x0_13.f2]), (22, .int .i64 (fW .i64 (a2 - 1))), (21, .int .i64 a2), (20, .vec (a1).length 3 ((a1).flatMap e47)), (19, .str a0), (18, .bool false), (17, .bool false), (16, .bool false), (15, .int .i64 (a1.length : Int)), (14, .vec (a1).length 3 ((a1).flatMap e47)), (13, .int .i64 a2), (12, .bool false), (11, .bool false), (10, .int .i64 a2), (6, .int .i64 0), (0, .str a0), (1, .vec (a1).length 3 ((a1).flatMap e47)), (2, .int .i64 a2)] : Env)) hb6) (opsD_run 3 (l' := (opsAt g49p1).toList.drop 22) (eE := E14) (H' := (mkH [])) (hs := []) (by kernel_rfl) (opsD_chk (l' := (opsAt g49p1).toList.drop 23) (eE := ((32, .vptr [.int .i64 x0_22.f0, .str x0_22.f1, .int .i64 x0_22.f2]) :: E14)) (hs := []) (x := x0_22) (fun (x0_22 : S46) => (.vptr [.int .i64 x0_22.f0, .str x0_22.f1, .int .i64 x0_22.f2], (mkH []))) (vidxH (sz := 3) e47_len (by kernel_rfl)) hx0_22 (by kernel_rfl) (opsD_run 1 (l' := (opsAt g49p1).toList.drop 24) (eE := ((33, .agg [.int .i64 x0_22.f0, .str x0_22.f1, .int .i64 x0_22.f2]) :: (32, .vptr [.int .i64 x0_22.f0, .str x0_22.f1, .int .i64 x0_22.f2]) :: E14)) (H' := (mkH [])) (hs := []) (by kernel_rfl) (opsD_call (l' := (opsAt g49p1).toList.drop 25) (eE := ((34, .bool x0_24) :: (33, .agg [.int .i64 x0_22.f0, .str x0_22.f1, .int .i64 x0_22.f2]) :: (32, .vptr [.int .i64 x0_22.f0, .str x0_22.f1, .int .i64 x0_22.f2]) :: E14)) (hs := [(mkH [])]) (fi := 66) (args := [.str a0, .agg [.int .i64 x0_22.f0, .str x0_22.f1, .int .i64 x0_22.f2]]) (v := .bool x0_24) (by kernel_rfl) (by kernel_rfl) (by kernel_rfl) (g66_ok k a0 (⟨x0_22.f0, x0_22.f1, x0_22.f2⟩ : S46) x0_24 hx0_24) (by kernel_rfl) (opsD_run 3 (l' := (opsAt g49p1).toList.drop 28) (eE := E15) (H' := (mkH [])) (hs := []) (by kernel_rfl) (opsD_env (eE := [(37, .bool false), (36, .bool false), (35, .bool false), (34, .bool x0_24), (33, .agg [.int .i64 x0_22.f0, .str x0_22.f1, .int .i64 x0_22.f2]), (32, .vptr [.int .i64 x0_22.f0, .str x0_22.f1, .int .i64 x0_22.f2]), (31, .int .i64 a2), (30, .vec (a1).length 3 ((a1).flatMap e47)), (29, .str a0), (28, .bool false), (27, .bool false), (26, .bool false), (25, .bool x0_15), (24, .agg [.int .i64 x0_13.f0, .str x0_13.f1, .int .i64 x0_13.f2]), (23, .vptr [.int .i64 x0_13.f0, .str x0_13.f1, .int .i64 x0_13.f2]), (22, .int .i64 (fW .i64 (a2 - 1))), (21, .int .i64 a2), (20, .vec (a1).length 3 ((a1).flatMap e47)), (19, .str a0), (18, .bool false), (17, .bool false), (16, .bool false), (15, .int .i64 (a1.length : Int)), (14, .vec (a1).length 3 ((a1).flatMap e47)), (13, .int .i64 a2), (12, .bool false), (11, .bool false), (10, .int .i64 a2), (6, .int .i64 0), (0, .str a0), (1, .vec (a1).length 3 ((a1).flatMap e47)), (2, .int .i64 a2)]) (congrArg (fun z : Bool => ([(37, .bool z), (36, .bool z), (35, .bool z), (34, .bool x0_24), (33, .agg [.int .i64 x0_22.f0, .str x0_22.f1, .int .i64 x0_22.f2]), (32, .vptr [.int .i64 x0_22.f0, .str x0_22.f1, .int .i64 x0_22.f2]), (31, .int .i64 a2), (30, .vec (a1).length 3 ((a1).flatMap e47)), (29, .str a0), (28, .bool false), (27, .bool false), (26, .bool false), (25, .bool x0_15), (24, .agg [.int .i64 x0_13.f0, .str x0_13.f1, .int .i64 x0_13.f2]), (23, .vptr [.int .i64 x0_13.f0, .str x0_13.f1, .int .i64 x0_13.f2]), (22, .int .i64 (fW .i64 (a2 - 1))), (21, .int .i64 a2), (20, .vec (a1).length 3 ((a1).flatMap e47)), (19, .str a0), (18, .bool false), (17, .bool false), (16, .bool false), (15, .int .i64 (a1.length : Int)), (14, .vec (a1).length 3 ((a1).flatMap e47)), (13, .int .i64 a2), (12, .bool false), (11, .bool false), (10, .int .i64 a2), (6, .int .i64 0), (0, .str a0), (1, .vec (a1).length 3 ((a1).flatMap e47)), (2, .int .i64 a2)] : Env)) hb7) (opsD_run 3 (l' := (opsAt g49p1).toList.drop 31) (eE := E17) (H' := (mkH [])) (hs := []) (by kernel_rfl) (opsD_chk (l' := (opsAt g49p1).toList.drop 32) (eE := ((41, .vptr [.int .i64 x0_31.f0, .str x0_31.f1, .int .i64 x0_31.f2]) :: E17)) (hs := []) (x := x0_31) (fun (x0_31 : S46) => (.vptr [.int .i64 x0_31.f0, .str x0_31.f1, .int .i64 x0_31.f2], (mkH []))) (vidxH (sz := 3) e47_len (by kernel_rfl)) hx0_31 (by kernel_rfl) (opsD_run 1 (l' := (opsAt g49p1).toList.drop 33) (eE := ((42, .agg [.int .i64 x0_31.f0, .str x0_31.f1, .int .i64 x0_31.f2]) :: (41, .vptr [.int .i64 x0_31.f0, .str x0_31.f1, .int .i64 x0_31.f2]) :: E17)) (H' := (mkH [])) (hs := []) (by kernel_rfl) (opsD_call (l' := (opsAt g49p1).toList.drop 34) (eE := ((43, .int .i64 x0_33) :: (42, .agg [.int .i64 x0_31.f0, .str x0_31.f1, .int .i64 x0_31.f2]) :: (41, .vptr [.int .i64 x0_31.f0, .str x0_31.f1, .int .i64 x0_31.f2]) :: E17)) (hs := [(mkH [])]) (fi := 38) (args := [.agg [.int .i64 x0_31.f0, .str x0_31.f1, .int .i64 x0_31.f2]]) (v := .int .i64 x0_33) (by kernel_rfl) (by kernel_rfl) (by kernel_rfl) (g38_ok k (⟨x0_31.f0, x0_31.f1, x0_31.f2⟩ : S46) x0_33 hx0_33) (by kernel_rfl) (opsD_run 2 (l' := (opsAt g49p1).toList.drop 36) (eE := E18) (H' := (mkH [])) (hs := []) (by kernel_rfl) (opsD_chk (l' := (opsAt g49p1).toList.drop 37) (eE := ((46, .vptr [.int .i64 x0_36.f0, .str x0_36.f1, .int .i64 x0_36.f2]) :: E18)) (hs := []) (x := x0_36) (fun (x0_36 : S46) => (.vptr [.int .i64 x0_36.f0, .str x0_36.f1, .int .i64 x0_36.f2], (mkH []))) (vidxH (sz := 3) e47_len (by kernel_rfl)) hx0_36 (by kernel_rfl) (opsD_run 4 (l' := (opsAt g49p1).toList.drop 41) (eE := E19) (H' := (mkH [])) (hs := []) (by kernel_rfl) (.nil)))))))))))))))))))))))) (by kernel_rfl) (by kernel_rfl) (by kernel_rfl) ?_
      refine oK [0, 1, 2, 50] (eE := [(0, .str a0), (1, .vec (a1).length 3 ((a1).flatMap e47)), (2, .int .i64 a2), (50, .bool (decide (x0_36.f2 < x0_33)))]) (by kernel_rfl) ?_
      exact hj4 (decide (x0_36.f2 < x0_33))
end
end Go.Proofs.Ytbmijiibfaacmaa.Am
set_option maxRecDepth 100000
set_option linter.unusedVariables false
namespace Go.Proofs.Ytbmijiibfaacmaa.Am
noncomputable section
open Go
def X36 : Fx Bool := ⟨Try.prog, cx, Try.f36, fun r => .bool r, 0, fun _ => H0, cxTi, cxOrd⟩
def g36p0 : Pt := nav [0] (bodyAt Try.f36)
def g36p1 : Pt := nav [0, 0, 0] g36p0
def g36 (k : Nat) (a0 : (List Nat)) (a1 : (List S46)) (a2 : Int) : Option Bool :=
 (g49 k a0 a1 a2).bind fun x0_3 => some (decide (0 < x0_3))
theorem g36_ok (k : Nat) (a0 : (List Nat)) (a1 : (List S46)) (a2 : Int) (r : Bool) (h : g36 k a0 a1 a2 = some r) : PureOk Try.prog 36 [.str a0, .vec (a1).length 3 ((a1).flatMap e47), .int .i64 a2] (.bool r) := by
 refine pure_of X36 (fun _ => rfl) Try.func36 (by decide +kernel) (by kernel_rfl) (t := g36 k a0 a1 a2) ?_ h
 unfold g36
 refine oE (eE := [(0, .str a0), (1, .vec (a1).length 3 ((a1).flatMap e47)), (2, .int .i64 a2)]) (by kernel_rfl) ?_
 let E1 : Env := [(9, .int .i64 a2), (8, .vec (a1).length 3 ((a1).flatMap e47)), (7, .str a0), (6, .bool false), (0, .str a0), (1, .vec (a1).length 3 ((a1).flatMap e47)), (2, .int .i64 a2)]
 refine oR 9 (p' := (atN 3 (ctl1 g36p1))) (eE := E1) (H' := (mkH [])) (by kernel_rfl) ?_
 refine oC (fun (x0_3 : Int) => .int .i64 x0_3) (atN 4 (ctl1 g36p1)) (fun x0_3 => ((10, .int .i64 x0_3) :: E1)) (fi := 49) (args := [.str a0, .vec (a1).length 3 ((a1).flatMap e47), .int .i64 a2]) (by kernel_rfl) (by kernel_rfl) (fun _ => by kernel_rfl) (fun r h => g49_ok k a0 a1 a2 r h) (fun _ => by kernel_rfl) (fun x0_3 hx0_3 => ?_)
 refine oR 4 (p' := .fin) (eE := ((6, .bool (decide (0 < x0_3))) :: (11, .bool (decide (0 < x0_3))) :: (10, .int .i64 x0_3) :: E1)) (H' := (mkH [])) (by kernel_rfl) ?_
 exact oT (r := (decide (0 < x0_3))) (xs := [.bool (decide (0 < x0_3))]) (v := .bool (decide (0 < x0_3))) (by kernel_rfl) (by kernel_rfl) (by kernel_rfl) (.pures (by kernel_rfl)) (by kernel_rfl)
end
end Go.Proofs.Ytbmijiibfaacmaa.Am
set_option maxRecDepth 100000
set_option linter.unusedVariables false
namespace Go.Proofs.Ytbmijiibfaacmaa.Am
noncomputable section
open Go
def X37 : Fx Bool := ⟨Try.prog, cx, Try.f37, fun r => .bool r, 0, fun _ => H0, cxTi, cxOrd⟩
def g37p0 : Pt := nav [0] (bodyAt Try.f37)
def g37p1 : Pt := nav [0, 0, 0] g37p0
def g37 (k : Nat) (a0 : (List Nat)) (a1 : (List S46)) (a2 : Int) : Option Bool :=
 (g49 k a0 a1 a2).bind fun x0_3 => some (decide (1 < x0_3))
theorem g37_ok (k : Nat) (a0 : (List Nat)) (a1 : (List S46)) (a2 : Int) (r : Bool) (h : g37 k a0 a1 a2 = some r) : PureOk Try.prog 37 [.str a0, .vec (a1).length 3 ((a1).flatMap e47), .int .i64 a2] (.bool r) := by
 refine pure_of X37 (fun _ => rfl) Try.func37 (by decide +kernel) (by kernel_rfl) (t := g37 k a0 a1 a2) ?_ h
 unfold g37
 refine oE (eE := [(0, .str a0), (1, .vec (a1).length 3 ((a1).flatMap e47)), (2, .int .i64 a2)]) (by kernel_rfl) ?_
 let E1 : Env := [(9, .int .i64 a2), (8, .vec (a1).length 3 ((a1).flatMap e47)), (7, .str a0), (6, .bool false), (0, .str a0), (1, .vec (a1).length 3 ((a1).flatMap e47)), (2, .int .i64 a2)]
 refine oR 9 (p' := (atN 3 (ctl1 g37p1))) (eE := E1) (H' := (mkH [])) (by kernel_rfl) ?_
 refine oC (fun (x0_3 : Int) => .int .i64 x0_3) (atN 4 (ctl1 g37p1)) (fun x0_3 => ((10, .int .i64 x0_3) :: E1)) (fi := 49) (args := [.str a0, .vec (a1).length 3 ((a1).flatMap e47), .int .i64 a2]) (by kernel_rfl) (by kernel_rfl) (fun _ => by kernel_rfl) (fun r h => g49_ok k a0 a1 a2 r h) (fun _ => by kernel_rfl) (fun x0_3 hx0_3 => ?_)
 refine oR 4 (p' := .fin) (eE := ((6, .bool (decide (1 < x0_3))) :: (11, .bool (decide (1 < x0_3))) :: (10, .int .i64 x0_3) :: E1)) (H' := (mkH [])) (by kernel_rfl) ?_
 exact oT (r := (decide (1 < x0_3))) (xs := [.bool (decide (1 < x0_3))]) (v := .bool (decide (1 < x0_3))) (by kernel_rfl) (by kernel_rfl) (by kernel_rfl) (.pures (by kernel_rfl)) (by kernel_rfl)
end
end Go.Proofs.Ytbmijiibfaacmaa.Am
set_option maxRecDepth 100000
set_option linter.unusedVariables false
namespace Go.Proofs.Ytbmijiibfaacmaa.Am
noncomputable section
open Go
def X34 : Fx Bool := ⟨Try.prog, cx, Try.f34, fun r => .bool r, 0, fun _ => H0, cxTi, cxOrd⟩
def g34c0 : List Nat := [102, 40, 91, 123, 49, 125, 93, 41, 10, 10, 46]
def g34p0 : Pt := nav [0] (bodyAt Try.f34)
def g34p1 : Pt := nav [0, 0, 0] g34p0
def g34p2 : Pt := nav [0, 0, 0] g34p1
def g34p3 : Pt := nav [0, 0, 0] g34p2
def g34 (k : Nat)  : Option Bool :=
 (g28 k g34c0).bind fun x0_1 => if (decide (x0_1.2 = 0)) then ((g39 k x0_1.1).bind fun x1_4 => if (decide (x1_4 = 3)) then ((g37 k g34c0 x0_1.1 (fW .i64 ((x0_1.1.length : Int) - 1))).bind fun x1_13 => if x1_13 then ((g36 k g34c0 x0_1.1 (fW .i64 ((x0_1.1.length : Int) - 1))).bind fun x1_21 => if x1_21 then ((g36 k g34c0 x0_1.1 (1 : Int)).bind fun x1_26 => if (!x1_26) then ((g37 k g34c0 x0_1.1 (0 : Int)).bind fun x1_32 => if (!x1_32) then ((nthL x0_1.1 0).bind fun x1_37 => (g38 k (⟨x1_37.f0, x1_37.f1, x1_37.f2⟩ : S46)).bind fun x1_39 => some (decide (x1_39 = 1))) else (some false)) else (some false)) else (some false)) else (some false)) else (some false)) else (some false)
theorem g34_ok (k : Nat)  (r : Bool) (h : g34 k  = some r) : PureOk Try.prog 34 [] (.bool r) := by
 refine pure_of X34 (fun _ => rfl) Try.func34 (by decide +kernel) (by kernel_rfl) (t := g34 k ) ?_ h
 unfold g34
 refine oE (eE := []) (by kernel_rfl) ?_
 refine oR 11 (p' := (atN 1 (ctl1 g34p2))) (eE := [(5, .str g34c0), (1, .str g34c0), (0, .bool false)]) (H' := (mkH [])) (by kernel_rfl) ?_
 refine oC (fun (x0_1 : ((List S46) × Int)) => .tuple [.vec (x0_1.1).length 3 ((x0_1.1).flatMap e47), .int .i64 x0_1.2]) (atN 2 (ctl1 g34p2)) (fun x0_1 => [(6, .tuple [.vec (x0_1.1).length 3 ((x0_1.1).flatMap e47), .int .i64 x0_1.2]), (5, .str g34c0), (1, .str g34c0), (0, .bool false)]) (fi := 28) (args := [.str g34c0]) (by kernel_rfl) (by kernel_rfl) (fun _ => by kernel_rfl) (fun r h => g28_ok k g34c0 r h) (fun _ => by kernel_rfl) (fun x0_1 hx0_1 => ?_)
 let E1 : Env := [(11, .bool (decide (x0_1.2 = 0))), (10, .bool (decide (x0_1.2 = 0))), (9, .int .i64 x0_1.2), (3, .int .i64 x0_1.2), (2, .vec (x0_1.1).length 3 ((x0_1.1).flatMap e47)), (8, .int .i64 x0_1.2), (7, .vec (x0_1.1).length 3 ((x0_1.1).flatMap e47)), (4, .tuple [.vec (x0_1.1).length 3 ((x0_1.1).flatMap e47), .int .i64 x0_1.2]), (6, .tuple [.vec (x0_1.1).length 3 ((x0_1.1).flatMap e47), .int .i64 x0_1.2]), (5, .str g34c0), (1, .str g34c0), (0, .bool false)]
 refine oR 11 (p' := (atN 3 (ctl1 g34p3))) (eE := E1) (H' := (mkH [])) (by kernel_rfl) ?_
 refine oS 11 (b := decide (x0_1.2 = 0)) (by kernel_rfl) (fun hb => ?_) (fun hb => ?_)
 ·refine oR 1 (p' := (atN 4 (ctl1 g34p3))) (eE := ((12, .vec (x0_1.1).length 3 ((x0_1.1).flatMap e47)) :: (11, .bool true) :: E1)) (H' := (mkH [])) (by kernel_rfl) ?_
  refine oC (fun (x1_4 : Int) => .int .i64 x1_4) (atN 5 (ctl1 g34p3)) (fun x1_4 => ((13, .int .i64 x1_4) :: (12, .vec (x0_1.1).length 3 ((x0_1.1).flatMap e47)) :: (11, .bool true) :: E1)) (fi := 39) (args := [.vec (x0_1.1).length 3 ((x0_1.1).flatMap e47)]) (by kernel_rfl) (by kernel_rfl) (fun _ => by kernel_rfl) (fun r h => g39_ok k x0_1.1 r h) (fun _ => by kernel_rfl) (fun x1_4 hx1_4 => ?_)
  let E2 : Env := ((16, .bool (decide (x1_4 = 3))) :: (15, .bool (decide (x1_4 = 3))) :: (14, .bool (decide (x1_4 = 3))) :: (13, .int .i64 x1_4) :: (12, .vec (x0_1.1).length 3 ((x0_1.1).flatMap e47)) :: (11, .bool true) :: E1)
  refine oR 3 (p' := (atN 8 (ctl1 g34p3))) (eE := E2) (H' := (mkH [])) (by kernel_rfl) ?_
  refine oS 16 (b := decide (x1_4 = 3)) (by kernel_rfl) (fun hb => ?_) (fun hb => ?_)
  ·let E3 : Env := ((21, .int .i64 (fW .i64 ((x0_1.1.length : Int) - 1))) :: (20, .int .i64 (x0_1.1.length : Int)) :: (19, .vec (x0_1.1).length 3 ((x0_1.1).flatMap e47)) :: (18, .vec (x0_1.1).length 3 ((x0_1.1).flatMap e47)) :: (17, .str g34c0) :: (16, .bool true) :: E2)
   refine oR 5 (p' := (atN 13 (ctl1 g34p3))) (eE := E3) (H' := (mkH [])) (by kernel_rfl) ?_
   refine oC (fun (x1_13 : Bool) => .bool x1_13) (atN 14 (ctl1 g34p3)) (fun x1_13 => ((22, .bool x1_13) :: E3)) (fi := 37) (args := [.str g34c0, .vec (x0_1.1).length 3 ((x0_1.1).flatMap e47), .int .i64 (fW .i64 ((x0_1.1.length : Int) - 1))]) (by kernel_rfl) (by kernel_rfl) (fun _ => by kernel_rfl) (fun r h => g37_ok k g34c0 x0_1.1 (fW .i64 ((x0_1.1.length : Int) - 1)) r h) (fun _ => by kernel_rfl) (fun x1_13 hx1_13 => ?_)
   refine oR 2 (p' := (atN 16 (ctl1 g34p3))) (eE := ((24, .bool x1_13) :: (23, .bool x1_13) :: (22, .bool x1_13) :: E3)) (H' := (mkH [])) (by kernel_rfl) ?_
   refine oS 24 (b := x1_13) (by kernel_rfl) (fun hb => ?_) (fun hb => ?_)
   ·let E4 : Env := ((29, .int .i64 (fW .i64 ((x0_1.1.length : Int) - 1))) :: (28, .int .i64 (x0_1.1.length : Int)) :: (27, .vec (x0_1.1).length 3 ((x0_1.1).flatMap e47)) :: (26, .vec (x0_1.1).length 3 ((x0_1.1).flatMap e47)) :: (25, .str g34c0) :: (24, .bool true) :: (24, .bool x1_13) :: (23, .bool x1_13) :: (22, .bool x1_13) :: E3)
    refine oR 5 (p' := (atN 21 (ctl1 g34p3))) (eE := E4) (H' := (mkH [])) (by kernel_rfl) ?_
    refine oC (fun (x1_21 : Bool) => .bool x1_21) (atN 22 (ctl1 g34p3)) (fun x1_21 => ((30, .bool x1_21) :: E4)) (fi := 36) (args := [.str g34c0, .vec (x0_1.1).length 3 ((x0_1.1).flatMap e47), .int .i64 (fW .i64 ((x0_1.1.length : Int) - 1))]) (by kernel_rfl) (by kernel_rfl) (fun _ => by kernel_rfl) (fun r h => g36_ok k g34c0 x0_1.1 (fW .i64 ((x0_1.1.length : Int) - 1)) r h) (fun _ => by kernel_rfl) (fun x1_21 hx1_21 => ?_)
    refine oR 2 (p' := (atN 24 (ctl1 g34p3))) (eE := ((32, .bool x1_21) :: (31, .bool x1_21) :: (30, .bool x1_21) :: E4)) (H' := (mkH [])) (by kernel_rfl) ?_
    refine oS 32 (b := x1_21) (by kernel_rfl) (fun hb => ?_) (fun hb => ?_)
    ·let E5 : Env := ((34, .vec (x0_1.1).length 3 ((x0_1.1).flatMap e47)) :: (33, .str g34c0) :: (32, .bool true) :: (32, .bool x1_21) :: (31, .bool x1_21) :: (30, .bool x1_21) :: E4)
     refine oR 2 (p' := (atN 26 (ctl1 g34p3))) (eE := E5) (H' := (mkH [])) (by kernel_rfl) ?_
     refine oC (fun (x1_26 : Bool) => .bool x1_26) (atN 27 (ctl1 g34p3)) (fun x1_26 => ((35, .bool x1_26) :: E5)) (fi := 36) (args := [.str g34c0, .vec (x0_1.1).length 3 ((x0_1.1).flatMap e47), .int .i64 1]) (by kernel_rfl) (by kernel_rfl) (fun _ => by kernel_rfl) (fun r h => g36_ok k g34c0 x0_1.1 (1 : Int) r h) (fun _ => by kernel_rfl) (fun x1_26 hx1_26 => ?_)
     refine oR 3 (p' := (atN 30 (ctl1 g34p3))) (eE := ((38, .bool (!x1_26)) :: (37, .bool (!x1_26)) :: (36, .bool (!x1_26)) :: (35, .bool x1_26) :: E5)) (H' := (mkH [])) (by kernel_rfl) ?_
     refine oS 38 (b := !x1_26) (by kernel_rfl) (fun hb => ?_) (fun hb => ?_)
     ·let E6 : Env := ((40, .vec (x0_1.1).length 3 ((x0_1.1).flatMap e47)) :: (39, .str g34c0) :: (38, .bool true) :: (38, .bool (!x1_26)) :: (37, .bool (!x1_26)) :: (36, .bool (!x1_26)) :: (35, .bool x1_26) :: E5)
      refine oR 2 (p' := (atN 32 (ctl1 g34p3))) (eE := E6) (H' := (mkH [])) (by kernel_rfl) ?_
      refine oC (fun (x1_32 : Bool) => .bool x1_32) (atN 33 (ctl1 g34p3)) (fun x1_32 => ((41, .bool x1_32) :: E6)) (fi := 37) (args := [.str g34c0, .vec (x0_1.1).length 3 ((x0_1.1).flatMap e47), .int .i64 0]) (by kernel_rfl) (by kernel_rfl) (fun _ => by kernel_rfl) (fun r h => g37_ok k g34c0 x0_1.1 (0 : Int) r h) (fun _ => by kernel_rfl) (fun x1_32 hx1_32 => ?_)
      refine oR 3 (p' := (atN 36 (ctl1 g34p3))) (eE := ((44, .bool (!x1_32)) :: (43, .bool (!x1_32)) :: (42, .bool (!x1_32)) :: (41, .bool x1_32) :: E6)) (H' := (mkH [])) (by kernel_rfl) ?_
      refine oS 44 (b := !x1_32) (by kernel_rfl) (fun hb => ?_) (fun hb => ?_)
      ·let E7 : Env := ((45, .vec (x0_1.1).length 3 ((x0_1.1).flatMap e47)) :: (44, .bool true) :: (44, .bool (!x1_32)) :: (43, .bool (!x1_32)) :: (42, .bool (!x1_32)) :: (41, .bool x1_32) :: E6)
       refine oR 1 (p' := (atN 37 (ctl1 g34p3))) (eE := E7) (H' := (mkH [])) (by kernel_rfl) ?_
       refine oH (fun (x1_37 : S46) => (.vptr [.int .i64 x1_37.f0, .str x1_37.f1, .int .i64 x1_37.f2], (mkH []))) (atN 38 (ctl1 g34p3)) (fun x1_37 => ((46, .vptr [.int .i64 x1_37.f0, .str x1_37.f1, .int .i64 x1_37.f2]) :: E7)) (vidxH (sz := 3) e47_len (by kernel_rfl)) (fun _ => by kernel_rfl) (fun x1_37 hx1_37 => ?_)
       refine oR 1 (p' := (atN 39 (ctl1 g34p3))) (eE := ((47, .agg [.int .i64 x1_37.f0, .str x1_37.f1, .int .i64 x1_37.f2]) :: (46, .vptr [.int .i64 x1_37.f0, .str x1_37.f1, .int .i64 x1_37.f2]) :: E7)) (H' := (mkH [])) (by kernel_rfl) ?_
       refine oC (fun (x1_39 : Int) => .int .i64 x1_39) (atN 40 (ctl1 g34p3)) (fun x1_39 => ((48, .int .i64 x1_39) :: (47, .agg [.int .i64 x1_37.f0, .str x1_37.f1, .int .i64 x1_37.f2]) :: (46, .vptr [.int .i64 x1_37.f0, .str x1_37.f1, .int .i64 x1_37.f2]) :: E7)) (fi := 38) (args := [.agg [.int .i64 x1_37.f0, .str x1_37.f1, .int .i64 x1_37.f2]]) (by kernel_rfl) (by kernel_rfl) (fun _ => by kernel_rfl) (fun r h => g38_ok k (⟨x1_37.f0, x1_37.f1, x1_37.f2⟩ : S46) r h) (fun _ => by kernel_rfl) (fun x1_39 hx1_39 => ?_)
       let E8 : Env := ((0, .bool (decide (x1_39 = 1))) :: (50, .bool (decide (x1_39 = 1))) :: (49, .bool (decide (x1_39 = 1))) :: (48, .int .i64 x1_39) :: (47, .agg [.int .i64 x1_37.f0, .str x1_37.f1, .int .i64 x1_37.f2]) :: (46, .vptr [.int .i64 x1_37.f0, .str x1_37.f1, .int .i64 x1_37.f2]) :: E7)
       refine oR 5 (p' := .fin) (eE := E8) (H' := (mkH [])) (by kernel_rfl) ?_
       exact oT (r := (decide (x1_39 = 1))) (xs := [.bool (decide (x1_39 = 1))]) (v := .bool (decide (x1_39 = 1))) (by kernel_rfl) (by kernel_rfl) (by kernel_rfl) (.pures (by kernel_rfl)) (by kernel_rfl)
      ·let E9 : Env := ((0, .bool false) :: (50, .bool false) :: (49, .tuple []) :: (48, .tuple []) :: (47, .tuple []) :: (46, .tuple []) :: (45, .tuple []) :: (44, .bool false) :: (44, .bool (!x1_32)) :: (43, .bool (!x1_32)) :: (42, .bool (!x1_32)) :: (41, .bool x1_32) :: E6)
       refine oR 9 (p' := .fin) (eE := E9) (H' := (mkH [])) (by kernel_rfl) ?_
       exact oT (r := false) (xs := [.bool false]) (v := .bool false) (by kernel_rfl) (by kernel_rfl) (by kernel_rfl) (.pures (by kernel_rfl)) (by kernel_rfl)
     ·let E10 : Env := ((0, .bool false) :: (50, .bool false) :: (49, .tuple []) :: (48, .tuple []) :: (47, .tuple []) :: (46, .tuple []) :: (45, .tuple []) :: (44, .bool false) :: (43, .bool false) :: (42, .tuple []) :: (41, .tuple []) :: (40, .tuple []) :: (39, .tuple []) :: (38, .bool false) :: (38, .bool (!x1_26)) :: (37, .bool (!x1_26)) :: (36, .bool (!x1_26)) :: (35, .bool x1_26) :: E5)
      refine oR 15 (p' := .fin) (eE := E10) (H' := (mkH [])) (by kernel_rfl) ?_
      exact oT (r := false) (xs := [.bool false]) (v := .bool false) (by kernel_rfl) (by kernel_rfl) (by kernel_rfl) (.pures (by kernel_rfl)) (by kernel_rfl)
    ·let E11 : Env := ((0, .bool false) :: (50, .bool false) :: (49, .tuple []) :: (48, .tuple []) :: (47, .tuple []) :: (46, .tuple []) :: (45, .tuple []) :: (44, .bool false) :: (43, .bool false) :: (42, .tuple []) :: (41, .tuple []) :: (40, .tuple []) :: (39, .tuple []) :: (38, .bool false) :: (37, .bool false) :: (36, .tuple []) :: (35, .tuple []) :: (34, .tuple []) :: (33, .tuple []) :: (32, .bool false) :: (32, .bool x1_21) :: (31, .bool x1_21) :: (30, .bool x1_21) :: E4)
     refine oR 21 (p' := .fin) (eE := E11) (H' := (mkH [])) (by kernel_rfl) ?_
     exact oT (r := false) (xs := [.bool false]) (v := .bool false) (by kernel_rfl) (by kernel_rfl) (by kernel_rfl) (.pures (by kernel_rfl)) (by kernel_rfl)
   ·let E12 : Env := ((0, .bool false) :: (50, .bool false) :: (49, .tuple []) :: (48, .tuple []) :: (47, .tuple []) :: (46, .tuple []) :: (45, .tuple []) :: (44, .bool false) :: (43, .bool false) :: (42, .tuple []) :: (41, .tuple []) :: (40, .tuple []) :: (39, .tuple []) :: (38, .bool false) :: (37, .bool false) :: (36, .tuple []) :: (35, .tuple []) :: (34, .tuple []) :: (33, .tuple []) :: (32, .bool false) :: (31, .bool false) :: (30, .tuple []) :: (29, .tuple []) :: (28, .tuple []) :: (27, .tuple []) :: (26, .tuple []) :: (25, .tuple []) :: (24, .bool false) :: (24, .bool x1_13) :: (23, .bool x1_13) :: (22, .bool x1_13) :: E3)
    refine oR 29 (p' := .fin) (eE := E12) (H' := (mkH [])) (by kernel_rfl) ?_
    exact oT (r := false) (xs := [.bool false]) (v := .bool false) (by kernel_rfl) (by kernel_rfl) (by kernel_rfl) (.pures (by kernel_rfl)) (by kernel_rfl)
  ·let E13 : Env := ((0, .bool false) :: (50, .bool false) :: (49, .tuple []) :: (48, .tuple []) :: (47, .tuple []) :: (46, .tuple []) :: (45, .tuple []) :: (44, .bool false) :: (43, .bool false) :: (42, .tuple []) :: (41, .tuple []) :: (40, .tuple []) :: (39, .tuple []) :: (38, .bool false) :: (37, .bool false) :: (36, .tuple []) :: (35, .tuple []) :: (34, .tuple []) :: (33, .tuple []) :: (32, .bool false) :: (31, .bool false) :: (30, .tuple []) :: (29, .tuple []) :: (28, .tuple []) :: (27, .tuple []) :: (26, .tuple []) :: (25, .tuple []) :: (24, .bool false) :: (23, .bool false) :: (22, .tuple []) :: (21, .tuple []) :: (20, .tuple []) :: (19, .tuple []) :: (18, .tuple []) :: (17, .tuple []) :: (16, .bool false) :: E2)
   refine oR 37 (p' := .fin) (eE := E13) (H' := (mkH [])) (by kernel_rfl) ?_
   exact oT (r := false) (xs := [.bool false]) (v := .bool false) (by kernel_rfl) (by kernel_rfl) (by kernel_rfl) (.pures (by kernel_rfl)) (by kernel_rfl)
 ·let E14 : Env := ((0, .bool false) :: (50, .bool false) :: (49, .tuple []) :: (48, .tuple []) :: (47, .tuple []) :: (46, .tuple []) :: (45, .tuple []) :: (44, .bool false) :: (43, .bool false) :: (42, .tuple []) :: (41, .tuple []) :: (40, .tuple []) :: (39, .tuple []) :: (38, .bool false) :: (37, .bool false) :: (36, .tuple []) :: (35, .tuple []) :: (34, .tuple []) :: (33, .tuple []) :: (32, .bool false) :: (31, .bool false) :: (30, .tuple []) :: (29, .tuple []) :: (28, .tuple []) :: (27, .tuple []) :: (26, .tuple []) :: (25, .tuple []) :: (24, .bool false) :: (23, .bool false) :: (22, .tuple []) :: (21, .tuple []) :: (20, .tuple []) :: (19, .tuple []) :: (18, .tuple []) :: (17, .tuple []) :: (16, .bool false) :: (15, .bool false) :: (14, .tuple []) :: (13, .tuple []) :: (12, .tuple []) :: (11, .bool false) :: E1)
  refine oR 42 (p' := .fin) (eE := E14) (H' := (mkH [])) (by kernel_rfl) ?_
  exact oT (r := false) (xs := [.bool false]) (v := .bool false) (by kernel_rfl) (by kernel_rfl) (by kernel_rfl) (.pures (by kernel_rfl)) (by kernel_rfl)
end
end Go.Proofs.Ytbmijiibfaacmaa.Am
set_option maxRecDepth 100000
set_option linter.unusedVariables false
namespace Go.Proofs.Ytbmijiibfaacmaa.Am
noncomputable section
open Go
def X11 : Fx Bool := ⟨Try.prog, cx, Try.f11, fun r => .bool r, 0, fun _ => H0, cxTi, cxOrd⟩
def g11p0 : Pt := nav [0] (bodyAt Try.f11)
def g11p1 : Pt := nav [0, 0, 0, 0] g11p0
def g11p2 : Pt := nav [0, 0] g11p1
def g11p3 : Pt := nav [1, 0] g11p2
def g11p4 : Pt := nav [2, 0, 0, 0] g11p2
def g11p6 : Pt := nav [0, 0, 0, 0] g11p4
def g11p7 : Pt := nav [0, 0, 0] g11p6
def g11p8 : Pt := nav [0, 0] g11p7
def g11p9 : Pt := nav [1, 0, 0, 0, 0] g11p8
def g11p10 : Pt := nav [2, 0, 0] g11p8
def g11p11 : Pt := nav [0, 0] g11p9
def g11p12 : Pt := nav [1, 0] g11p11
def g11_l4 (k : Nat)  (a0 : (List S46)) (n : Nat) : Int → Option Bool :=
 Nat.rec (motive := fun _ => Int → Option Bool) (fun _ => none) (fun _ ih => fun (y4_0 : Int) => if (decide (y4_0 < (a0.length : Int))) then ((nthL a0 y4_0).bind fun x1_2 => if (decide (100 < (x1_2.f1.length : Int))) then ((g34 k).bind fun x2_0 => some x2_0) else (ih (fW .i64 (y4_0 + 1)))) else ((g34 k).bind fun x3_0 => if x3_0 then ((g39 k a0).bind fun x3_3 => (g40 k a0).bind fun x3_5 => some (decide (x3_3 = x3_5))) else (some false))) n
theorem g11_l4_s (k : Nat)  (a0 : (List S46)) (n : Nat) (y4_0 : Int) : g11_l4 k a0 (n + 1) y4_0 = (if (decide (y4_0 < (a0.length : Int))) then ((nthL a0 y4_0).bind fun x1_2 => if (decide (100 < (x1_2.f1.length : Int))) then ((g34 k).bind fun x2_0 => some x2_0) else ((g11_l4 k a0 n) (fW .i64 (y4_0 + 1)))) else ((g34 k).bind fun x3_0 => if x3_0 then ((g39 k a0).bind fun x3_3 => (g40 k a0).bind fun x3_5 => some (decide (x3_3 = x3_5))) else (some false))) := rfl
theorem g11_l4_ok (k : Nat)  (a0 : (List S46))  : ∀ (n : Nat) (y4_0 : Int), Ok X11 g11p6 [(0, .vec (a0).length 3 ((a0).flatMap e47)), (3, .int .i64 y4_0)] (mkH []) (g11_l4 k a0 n y4_0)
 | 0, _ => ok_none
 | n + 1, y4_0 => by
  have ih := g11_l4_ok k a0 n
  rw [g11_l4_s]
  refine ok_ent (p' := nav [0] g11p6) (by kernel_rfl) ?_
  let E2 : Env := [(11, .bool (decide (y4_0 < (a0.length : Int)))), (10, .int .i64 (a0.length : Int)), (9, .vec (a0).length 3 ((a0).flatMap e47)), (8, .int .i64 y4_0), (0, .vec (a0).length 3 ((a0).flatMap e47)), (3, .int .i64 y4_0)]
  refine oR 8 (p' := g11p8) (eE := E2) (H' := (mkH [])) (by kernel_rfl) ?_
  refine oS 11 (b := decide (y4_0 < (a0.length : Int))) (by kernel_rfl) (fun hb => ?_) (fun hb => ?_)
  ·refine oR 8 (p' := (atN 2 (ctl1 g11p9))) (eE := ((15, .int .i64 y4_0) :: (14, .vec (a0).length 3 ((a0).flatMap e47)) :: (11, .bool true) :: E2)) (H' := (mkH [])) (by kernel_rfl) ?_
   refine oH (fun (x1_2 : S46) => (.vptr [.int .i64 x1_2.f0, .str x1_2.f1, .int .i64 x1_2.f2], (mkH []))) (atN 3 (ctl1 g11p9)) (fun x1_2 => ((16, .vptr [.int .i64 x1_2.f0, .str x1_2.f1, .int .i64 x1_2.f2]) :: (15, .int .i64 y4_0) :: (14, .vec (a0).length 3 ((a0).flatMap e47)) :: (11, .bool true) :: E2)) (vidxH (sz := 3) e47_len (by kernel_rfl)) (fun _ => by kernel_rfl) (fun x1_2 hx1_2 => ?_)
   let E3 : Env := ((20, .bool (decide (100 < (x1_2.f1.length : Int)))) :: (19, .int .i64 (x1_2.f1.length : Int)) :: (18, .str x1_2.f1) :: (17, .vptr [.str x1_2.f1, .int .i64 x1_2.f2]) :: (16, .vptr [.int .i64 x1_2.f0, .str x1_2.f1, .int .i64 x1_2.f2]) :: (15, .int .i64 y4_0) :: (14, .vec (a0).length 3 ((a0).flatMap e47)) :: (11, .bool true) :: E2)
   refine oR 5 (p' := g11p11) (eE := E3) (H' := (mkH [])) (by kernel_rfl) ?_
   refine oK [0, 3, 20] (eE := [(0, .vec (a0).length 3 ((a0).flatMap e47)), (3, .int .i64 y4_0), (20, .bool (decide (100 < (x1_2.f1.length : Int))))]) (by kernel_rfl) ?_
   refine oS 20 (b := decide (100 < (x1_2.f1.length : Int))) (by kernel_rfl) (fun hb => ?_) (fun hb => ?_)
   ·refine oR 3 (p' := (atN 0 (ctl1 g11p12))) (eE := [(20, .bool true), (0, .vec (a0).length 3 ((a0).flatMap e47)), (3, .int .i64 y4_0), (20, .bool (decide (100 < (x1_2.f1.length : Int))))]) (H' := (mkH [])) (by kernel_rfl) ?_
    refine oC (fun (x2_0 : Bool) => .bool x2_0) (atN 1 (ctl1 g11p12)) (fun x2_0 => [(21, .bool x2_0), (20, .bool true), (0, .vec (a0).length 3 ((a0).flatMap e47)), (3, .int .i64 y4_0), (20, .bool (decide (100 < (x1_2.f1.length : Int))))]) (fi := 34) (args := []) (by kernel_rfl) (by kernel_rfl) (fun _ => by kernel_rfl) (fun r h => g34_ok k  r h) (fun _ => by kernel_rfl) (fun x2_0 hx2_0 => ?_)
    let E4 : Env := [(2, .bool x2_0), (21, .bool x2_0), (20, .bool true), (0, .vec (a0).length 3 ((a0).flatMap e47)), (3, .int .i64 y4_0), (20, .bool (decide (100 < (x1_2.f1.length : Int))))]
    refine oR 3 (p' := .fin) (eE := E4) (H' := (mkH [])) (by kernel_rfl) ?_
    exact oT (r := x2_0) (xs := [.bool x2_0]) (v := .bool x2_0) (by kernel_rfl) (by kernel_rfl) (by kernel_rfl) (.pures (by kernel_rfl)) (by kernel_rfl)
   ·let E5 : Env := [(3, .int .i64 (fW .i64 (y4_0 + 1))), (13, .int .i64 (fW .i64 (y4_0 + 1))), (12, .int .i64 y4_0), (20, .bool false), (0, .vec (a0).length 3 ((a0).flatMap e47)), (3, .int .i64 y4_0), (20, .bool (decide (100 < (x1_2.f1.length : Int))))]
    refine oR 7 (p' := g11p6) (eE := E5) (H' := (mkH [])) (by kernel_rfl) ?_
    refine oK [0, 3] (eE := [(0, .vec (a0).length 3 ((a0).flatMap e47)), (3, .int .i64 (fW .i64 (y4_0 + 1)))]) (by kernel_rfl) ?_
    exact ih (fW .i64 (y4_0 + 1))
  ·refine oR 4 (p' := (atN 0 (ctl1 g11p10))) (eE := ((11, .bool false) :: E2)) (H' := (mkH [])) (by kernel_rfl) ?_
   refine oC (fun (x3_0 : Bool) => .bool x3_0) (atN 1 (ctl1 g11p10)) (fun x3_0 => ((22, .bool x3_0) :: (11, .bool false) :: E2)) (fi := 34) (args := []) (by kernel_rfl) (by kernel_rfl) (fun _ => by kernel_rfl) (fun r h => g34_ok k  r h) (fun _ => by kernel_rfl) (fun x3_0 hx3_0 => ?_)
   refine oR 1 (p' := (atN 2 (ctl1 g11p10))) (eE := ((23, .bool x3_0) :: (22, .bool x3_0) :: (11, .bool false) :: E2)) (H' := (mkH [])) (by kernel_rfl) ?_
   refine oS 23 (b := x3_0) (by kernel_rfl) (fun hb => ?_) (fun hb => ?_)
   ·let E6 : Env := ((24, .vec (a0).length 3 ((a0).flatMap e47)) :: (23, .bool true) :: (23, .bool x3_0) :: (22, .bool x3_0) :: (11, .bool false) :: E2)
    refine oR 1 (p' := (atN 3 (ctl1 g11p10))) (eE := E6) (H' := (mkH [])) (by kernel_rfl) ?_
    refine oC (fun (x3_3 : Int) => .int .i64 x3_3) (atN 4 (ctl1 g11p10)) (fun x3_3 => ((25, .int .i64 x3_3) :: E6)) (fi := 39) (args := [.vec (a0).length 3 ((a0).flatMap e47)]) (by kernel_rfl) (by kernel_rfl) (fun _ => by kernel_rfl) (fun r h => g39_ok k a0 r h) (fun _ => by kernel_rfl) (fun x3_3 hx3_3 => ?_)
    refine oR 1 (p' := (atN 5 (ctl1 g11p10))) (eE := ((26, .vec (a0).length 3 ((a0).flatMap e47)) :: (25, .int .i64 x3_3) :: E6)) (H' := (mkH [])) (by kernel_rfl) ?_
    refine oC (fun (x3_5 : Int) => .int .i64 x3_5) (atN 6 (ctl1 g11p10)) (fun x3_5 => ((27, .int .i64 x3_5) :: (26, .vec (a0).length 3 ((a0).flatMap e47)) :: (25, .int .i64 x3_3) :: E6)) (fi := 40) (args := [.vec (a0).length 3 ((a0).flatMap e47)]) (by kernel_rfl) (by kernel_rfl) (fun _ => by kernel_rfl) (fun r h => g40_ok k a0 r h) (fun _ => by kernel_rfl) (fun x3_5 hx3_5 => ?_)
    let E7 : Env := ((2, .bool (decide (x3_3 = x3_5))) :: (29, .bool (decide (x3_3 = x3_5))) :: (28, .bool (decide (x3_3 = x3_5))) :: (27, .int .i64 x3_5) :: (26, .vec (a0).length 3 ((a0).flatMap e47)) :: (25, .int .i64 x3_3) :: E6)
    refine oR 5 (p' := .fin) (eE := E7) (H' := (mkH [])) (by kernel_rfl) ?_
    exact oT (r := (decide (x3_3 = x3_5))) (xs := [.bool (decide (x3_3 = x3_5))]) (v := .bool (decide (x3_3 = x3_5))) (by kernel_rfl) (by kernel_rfl) (by kernel_rfl) (.pures (by kernel_rfl)) (by kernel_rfl)
   ·let E8 : Env := ((2, .bool false) :: (29, .bool false) :: (28, .tuple []) :: (27, .tuple []) :: (26, .tuple []) :: (25, .tuple []) :: (24, .tuple []) :: (23, .bool false) :: (23, .bool x3_0) :: (22, .bool x3_0) :: (11, .bool false) :: E2)
    refine oR 9 (p' := .fin) (eE := E8) (H' := (mkH [])) (by kernel_rfl) ?_
    exact oT (r := false) (xs := [.bool false]) (v := .bool false) (by kernel_rfl) (by kernel_rfl) (by kernel_rfl) (.pures (by kernel_rfl)) (by kernel_rfl)
def g11 (k : Nat) (a0 : (List S46)) : Option Bool :=
 if (decide (200 < (a0.length : Int))) then ((g34 k).bind fun x0_0 => some x0_0) else (g11_l4 k a0 k 0)
theorem g11_ok (k : Nat) (a0 : (List S46)) (r : Bool) (h : g11 k a0 = some r) : PureOk Try.prog 11 [.vec (a0).length 3 ((a0).flatMap e47)] (.bool r) := by
 refine pure_of X11 (fun _ => rfl) Try.func11 (by decide +kernel) (by kernel_rfl) (t := g11 k a0) ?_ h
 unfold g11
 refine oE (eE := [(0, .vec (a0).length 3 ((a0).flatMap e47))]) (by kernel_rfl) ?_
 let E1 : Env := [(6, .bool (decide (200 < (a0.length : Int)))), (5, .int .i64 (a0.length : Int)), (4, .vec (a0).length 3 ((a0).flatMap e47)), (2, .bool false), (0, .vec (a0).length 3 ((a0).flatMap e47))]
 refine oR 11 (p' := g11p2) (eE := E1) (H' := (mkH [])) (by kernel_rfl) ?_
 refine oS 6 (b := decide (200 < (a0.length : Int))) (by kernel_rfl) (fun hb => ?_) (fun hb => ?_)
 ·refine oR 3 (p' := (atN 0 (ctl1 g11p3))) (eE := ((6, .bool true) :: E1)) (H' := (mkH [])) (by kernel_rfl) ?_
  refine oC (fun (x0_0 : Bool) => .bool x0_0) (atN 1 (ctl1 g11p3)) (fun x0_0 => ((7, .bool x0_0) :: (6, .bool true) :: E1)) (fi := 34) (args := []) (by kernel_rfl) (by kernel_rfl) (fun _ => by kernel_rfl) (fun r h => g34_ok k  r h) (fun _ => by kernel_rfl) (fun x0_0 hx0_0 => ?_)
  refine oR 3 (p' := .fin) (eE := ((2, .bool x0_0) :: (7, .bool x0_0) :: (6, .bool true) :: E1)) (H' := (mkH [])) (by kernel_rfl) ?_
  exact oT (r := x0_0) (xs := [.bool x0_0]) (v := .bool x0_0) (by kernel_rfl) (by kernel_rfl) (by kernel_rfl) (.pures (by kernel_rfl)) (by kernel_rfl)
 ·refine oR 9 (p' := g11p6) (eE := ((3, .int .i64 0) :: (6, .bool false) :: E1)) (H' := (mkH [])) (by kernel_rfl) ?_
  refine oK [0, 3] (eE := [(0, .vec (a0).length 3 ((a0).flatMap e47)), (3, .int .i64 0)]) (by kernel_rfl) ?_
  exact (g11_l4_ok k a0 k) 0
end
end Go.Proofs.Ytbmijiibfaacmaa.Am
set_option maxRecDepth 100000
set_option linter.unusedVariables false
set_option linter.unusedSimpArgs false
namespace Go.Proofs.Ytbmijiibfaacmaa.Am
open Go
theorem told7 (k : Nat) : g34 (k + 60) = some true := by kernel_rfl
def fuG (t : S46) : List S46 → Bool
 | [] => false
 | u :: _ => if t.f0 = 8 then (if eqL t.f1 [102, 117, 110] then (if u.f0 = 9 then eqL u.f1 [40] else false) else false) else false
abbrev opF (t : S46) (K : List S46) : Bool := if opG t then true else fuG t K
def dG : List S46 → Nat → Nat → Nat
 | [], _, m => m
 | t :: K, n, m => if opF t K then dG K (n + 1) (max m (n + 1)) else if clG t then dG K (n - 1) (max m (n - 1)) else dG K n (max m n)
theorem fun_at (k : Nat) {L : List S46} (hL : L.length ≤ 100000) {i : Nat} {a : S46} {K : List S46} (hd : L.drop i = a :: K) (b2 : Int) (b3 : List Nat) (b4 : Int) : g39f50_0 k (i : Int) L b2 b3 b4 = some (opF a K) := by
 have hn : nthL L (i : Int) = some a := nthL_at hd
 have hln := congrArg List.length hd
 rw [List.length_drop, List.length_cons] at hln
 unfold g39f50_0 opF
 refine bS (by (try simp (disch := omega) only [fwI]); exact hn) ?_
 refine bS (by (try simp (disch := omega) only [fwI]); exact opens_at k a) ?_
 by_cases ho : opG a = true
 ·refine iT ho ?_
  rw [if_pos ho]
 ·refine iF (Bool.eq_false_iff.2 ho) ?_
  rw [if_neg ho]
  refine bS (by (try simp (disch := omega) only [fwI]); exact hn) ?_
  by_cases h8 : a.f0 = 8
  ·refine iT (dT h8) ?_
   refine bS (by (try simp (disch := omega) only [fwI]); exact hn) ?_
   by_cases hf : eqL a.f1 [102, 117, 110] = true
   ·refine iT hf ?_
    cases K with
    | nil =>
     simp only [List.length_nil] at hln
     refine iF (dF ?_) rfl
     rw [fw_s (by omega)]; omega
    | cons u K =>
     simp only [List.length_cons] at hln
     have hn2 : nthL L ((i + 1 : Nat) : Int) = some u := nthL_at (r := K) (by rw [← List.drop_drop, hd]; rfl)
     rw [fw_s (by omega)]
     refine iT (dT (by omega)) ?_
     refine bS (by (try simp (disch := omega) only [fwI]); exact hn2) ?_
     simp only [fuG]
     rw [if_pos h8, if_pos hf]
     by_cases h9 : u.f0 = 9
     ·refine iT (dT h9) ?_
      refine bS (by (try simp (disch := omega) only [fwI]); exact hn2) ?_
      rw [if_pos h9]
     ·refine iF (dF h9) ?_
      rw [if_neg h9]
   ·refine iF (Bool.eq_false_iff.2 hf) ?_
    cases K with
    | nil => rfl
    | cons u K => simp only [fuG]; rw [if_pos h8, if_neg hf]
  ·refine iF (dF h8) ?_
   cases K with
   | nil => rfl
   | cons u K => simp only [fuG]; rw [if_neg h8]
theorem maxI_at (a b : Nat) : maxI (a : Int) (b : Int) = ((max a b : Nat) : Int) := by unfold maxI; split <;> omega
theorem deep_l (k : Nat) {L : List S46} (hL : L.length ≤ 100000) : ∀ (K : List S46) (f i n m : Nat), L.drop i = K → K.length < f → n ≤ i → m ≤ i →
 g39_l3 k L f (n : Int) (m : Int) (i : Int) = some ((dG K n m : Nat) : Int)
 | K, 0, i, n, m, hd, hf, hn, hmi => by omega
 | [], f + 1, i, n, m, hd, hf, hn, hmi => by
  have := List.drop_eq_nil_iff.1 hd
  rw [g39_l3_s]
  refine iF (dF (by omega)) ?_
  simp only [dG]
 | a :: K, f + 1, i, n, m, hd, hf, hn, hmi => by
  have hln := congrArg List.length hd
  rw [List.length_drop, List.length_cons] at hln
  have hd2 : L.drop (i + 1) = K := by rw [← List.drop_drop, hd]; rfl
  simp only [List.length_cons] at hf
  have ih := fun n' m' h1 h2 => deep_l k hL K f (i + 1) n' m' hd2 (by omega) h1 h2
  rw [g39_l3_s]
  refine iT (dT (by omega)) ?_
  refine bS (by (try simp (disch := omega) only [fwI]); exact nthL_at hd) ?_
  refine bS (by (try simp (disch := omega) only [fwI]); exact fun_at k hL hd a.f0 a.f1 a.f2) ?_
  simp only [dG]
  by_cases ho : opF a K = true
  ·rw [if_pos ho]
   refine (jS (v := (((n + 1 : Nat) : Int), (m : Int), (i : Int))) (fun j => ?_)).trans ?_
   ·refine iT ho ?_
    rw [fw_s (by omega)]
   ·rw [fw_s (by omega), maxI_at]
    exact ih (n + 1) (max m (n + 1)) (by omega) (by omega)
  ·rw [if_neg ho]
   by_cases hc : clG a = true
   ·rw [if_pos hc]
    refine (jS (v := (((n - 1 : Nat) : Int), (m : Int), (i : Int))) (fun j => ?_)).trans ?_
    ·refine iF (Bool.eq_false_iff.2 ho) ?_
     refine bS (by (try simp (disch := omega) only [fwI]); exact closes_at k a) ?_
     refine iT hc ?_
     rw [show maxI (fW .i64 ((n : Int) - 1)) 0 = ((n - 1 : Nat) : Int) from by
      rw [fwI (by omega) (by omega)]; unfold maxI; split <;> omega]
    ·rw [fw_s (by omega), maxI_at]
     exact ih (n - 1) (max m (n - 1)) (by omega) (by omega)
   ·rw [if_neg hc]
    refine (jS (v := ((n : Int), (m : Int), (i : Int))) (fun j => ?_)).trans ?_
    ·refine iF (Bool.eq_false_iff.2 ho) ?_
     refine bS (by (try simp (disch := omega) only [fwI]); exact closes_at k a) ?_
     exact iF (Bool.eq_false_iff.2 hc) rfl
    ·rw [fw_s (by omega), maxI_at]
     exact ih n (max m n) (by omega) (by omega)
theorem rdeep_l (k : Nat) {L : List S46} (hL : L.length ≤ 100000) : ∀ (K : List S46) (f i n m : Nat), L.drop i = K → K.length < f → n ≤ i → m ≤ i →
 g40_l2 (k + 60) L f (n : Int) (m : Int) (i : Int) = some ((dG K n m : Nat) : Int)
 | K, 0, i, n, m, hd, hf, hn, hmi => by omega
 | [], f + 1, i, n, m, hd, hf, hn, hmi => by
  have := List.drop_eq_nil_iff.1 hd
  rw [g40_l2_s]
  refine iF (dF (by omega)) ?_
  simp only [dG]
 | a :: K, f + 1, i, n, m, hd, hf, hn, hmi => by
  have hln := congrArg List.length hd
  rw [List.length_drop, List.length_cons] at hln
  have hd2 : L.drop (i + 1) = K := by rw [← List.drop_drop, hd]; rfl
  have hn1 := nthL_at hd
  simp only [List.length_cons] at hf
  have ih := fun n' m' h1 h2 => rdeep_l k hL K f (i + 1) n' m' hd2 (by omega) h1 h2
  rw [g40_l2_s]
  refine iT (dT (by omega)) ?_
  refine bS (by (try simp (disch := omega) only [fwI]); exact hn1) ?_
  refine bS (by (try simp (disch := omega) only [fwI]); exact ropens_at k a) ?_
  simp only [dG]
  refine (jS (v := (opF a K, (n : Int), (m : Int), (i : Int))) (fun j3 => ?_)).trans ?_
  ·by_cases ho : opG a = true
   ·refine iT ho ?_
    rw [opF, if_pos ho]
   ·refine iF (Bool.eq_false_iff.2 ho) ?_
    rw [opF, if_neg ho]
    refine bS (by (try simp (disch := omega) only [fwI]); exact hn1) ?_
    by_cases h8 : a.f0 = 8
    ·refine iT (dT h8) ?_
     refine bS (by (try simp (disch := omega) only [fwI]); exact hn1) ?_
     by_cases hfu : eqL a.f1 [102, 117, 110] = true
     ·refine iT hfu ?_
      cases K with
      | nil =>
       simp only [List.length_nil] at hln
       refine iF (dF ?_) rfl
       rw [fw_s (by omega)]; omega
      | cons u K =>
       simp only [List.length_cons] at hln
       have hn2 : nthL L ((i + 1 : Nat) : Int) = some u := nthL_at (r := K) hd2
       rw [fw_s (by omega)]
       refine iT (dT (by omega)) ?_
       refine bS (by (try simp (disch := omega) only [fwI]); exact hn2) ?_
       simp only [fuG]
       rw [if_pos h8, if_pos hfu]
       by_cases h9 : u.f0 = 9
       ·refine iT (dT h9) ?_
        refine bS (by (try simp (disch := omega) only [fwI]); exact hn2) ?_
        rw [if_pos h9]
       ·refine iF (dF h9) ?_
        rw [if_neg h9]
     ·refine iF (Bool.eq_false_iff.2 hfu) ?_
      cases K with
      | nil => rfl
      | cons u K => simp only [fuG]; rw [if_pos h8, if_neg hfu]
    ·refine iF (dF h8) ?_
     cases K with
     | nil => rfl
     | cons u K => simp only [fuG]; rw [if_neg h8]
  ·by_cases ho : opF a K = true
   ·rw [if_pos ho]
    refine (jS (v := (((n + 1 : Nat) : Int), (m : Int), (i : Int))) (fun j => ?_)).trans ?_
    ·refine iT ho ?_
     rw [fw_s (by omega)]
    ·rw [fw_s (by omega), maxI_at]
     exact ih (n + 1) (max m (n + 1)) (by omega) (by omega)
   ·rw [if_neg ho]
    by_cases hc : clG a = true
    ·rw [if_pos hc]
     refine (jS (v := (((n - 1 : Nat) : Int), (m : Int), (i : Int))) (fun j => ?_)).trans ?_
     ·refine iF (Bool.eq_false_iff.2 ho) ?_
      refine bS (by (try simp (disch := omega) only [fwI]); exact hn1) ?_
      refine bS (by (try simp (disch := omega) only [fwI]); exact rcloses_at k a) ?_
      refine (jS (v := ((n : Int), (m : Int), (i : Int), decide (0 < (n : Int)))) (fun j5 => ?_)).trans ?_
      ·exact iT hc rfl
      ·by_cases h0 : 0 < n
       ·refine iT (dT (by omega)) ?_
        rw [show fW .i64 ((n : Int) - 1) = ((n - 1 : Nat) : Int) from by rw [fwI (by omega) (by omega)]; omega]
       ·refine iF (dF (by omega)) ?_
        rw [show n - 1 = n by omega]
     ·rw [fw_s (by omega), maxI_at]
      exact ih (n - 1) (max m (n - 1)) (by omega) (by omega)
    ·rw [if_neg hc]
     refine (jS (v := ((n : Int), (m : Int), (i : Int))) (fun j => ?_)).trans ?_
     ·refine iF (Bool.eq_false_iff.2 ho) ?_
      refine bS (by (try simp (disch := omega) only [fwI]); exact hn1) ?_
      refine bS (by (try simp (disch := omega) only [fwI]); exact rcloses_at k a) ?_
      refine (jS (v := ((n : Int), (m : Int), (i : Int), false)) (fun j5 => ?_)).trans ?_
      ·exact iF (Bool.eq_false_iff.2 hc) rfl
      ·exact iF rfl rfl
     ·rw [fw_s (by omega), maxI_at]
      exact ih n (max m n) (by omega) (by omega)
theorem gapdeep_l (k : Nat) (hk : 300 ≤ k) {L : List S46} (hL : L.length ≤ 200) : ∀ (d i f : Nat), i + d = L.length → d < f → g11_l4 (k + 60) L f (i : Int) = some true
 | d, i, 0, h, hf => by omega
 | 0, i, f + 1, h, hf => by
  rw [g11_l4_s]
  refine iF (dF (by omega)) ?_
  refine bS (by (try simp (disch := omega) only [fwI]); exact told7 k) ?_
  refine iT rfl ?_
  have e1 : g39 (k + 60) L = some ((dG L 0 0 : Nat) : Int) := deep_l (k + 60) (by omega) L (k + 60) 0 0 0 rfl (by omega) (Nat.le_refl _) (Nat.le_refl _)
  have e2 : g40 (k + 60) L = some ((dG L 0 0 : Nat) : Int) := rdeep_l k (by omega) L (k + 60) 0 0 0 rfl (by omega) (Nat.le_refl _) (Nat.le_refl _)
  refine bS (by (try simp (disch := omega) only [fwI]); exact e1) ?_
  refine bS (by (try simp (disch := omega) only [fwI]); exact e2) ?_
  rw [dT rfl]
 | d + 1, i, f + 1, h, hf => by
  obtain ⟨x, r, hx, -, -, -⟩ := dconsL (s := L) (i := i) (by omega)
  have ih := gapdeep_l k hk hL d (i + 1) f (by omega) (by omega)
  rw [g11_l4_s]
  refine iT (dT (by omega)) ?_
  refine bS (by (try simp (disch := omega) only [fwI]); exact nthL_at hx) ?_
  by_cases h1 : 100 < (x.f1.length : Int)
  ·refine iT (dT h1) ?_
   refine bS (by (try simp (disch := omega) only [fwI]); exact told7 k) ?_
   rfl
  ·refine iF (dF h1) ?_
   rw [fw_s (by omega)]
   exact ih
theorem gapDeep_true (l : List S46) (hq : ∀ x ∈ l, (-9223372036854775808 ≤ x.f0 ∧ x.f0 ≤ 9223372036854775807) ∧ ((∀ b ∈ x.f1, b < 256) ∧ x.f1.length ≤ 9223372036854775807) ∧ (-9223372036854775808 ≤ x.f2 ∧ x.f2 ≤ 9223372036854775807) ∧ True) (hl : l.length ≤ 9223372036854775807) : ∃ k, g11 k l = some true := by
 refine ⟨340 + 60, ?_⟩
 unfold g11
 by_cases h : 200 < l.length
 ·refine iT (dT (by omega)) ?_
  refine bS (by (try simp (disch := omega) only [fwI]); exact told7 340) ?_
  rfl
 ·refine iF (dF (by omega)) ?_
  exact gapdeep_l 340 (by omega) (by omega) l.length 0 (340 + 60) (by omega) (by omega)
end Go.Proofs.Ytbmijiibfaacmaa.Am
set_option linter.unusedVariables false
namespace Go.Proofs.Ytbmijiibfaacmaa.Am
open Go Go.ChangeShapes Go.WideShapes
def mpOf (fz : List (Nat × List AV)) : Mp := ⟨fun _ _ => none, fun i => fz[i]?⟩
theorem law_walk_fz {P : Program} {n : Nat} {xs : List AV} {args : Array Value} (h : PureOk P n xs (.bool true)) (w : World) (fz : List (Nat × List AV)) (hargs : VRs (mpOf fz) xs args.toList)
 (hfz : ∀ p ∈ fz, ∃ cs ty fr, w.heap[p.1]? = some (.cells cs ty fr) ∧ p.2.length ≤ cs.size ∧ VRs (mpOf fz) p.2 (cs.toList.take p.2.length)) :
 Calls P n args w fun e W' => e = .returned (.bool true) ∧ RowKit.Below w.heap.size w W' := by
 refine Calls.mono (h.1 (mpOf fz) w args (fun _ _ => rfl) hargs ?_) ?_
 ·refine ⟨?_, ?_, ?_, fun _ _ => rfl, ?_, ?_, ?_, ⟨fz.length, fun i hi => List.getElem?_eq_none hi⟩, Nat.le_refl _, by show 0 ≤ roots; unfold roots; omega⟩
  ·intro r b v B N hb hm; cases hm
  ·intro r v B N hm; cases hm
  ·intro r v B N r' v' N' hm; cases hm
  ·intro r v B N hm; cases hm
  ·intro i B cells hi
   exact hfz (B, cells) (List.mem_of_getElem? hi)
  ·intro i B cells r v N b _ hm; cases hm
 ·rintro e w' ⟨m', c, rfl, q1, q2, q3⟩
  simp only [VR] at q3
  exact ⟨by rw [q3], q2.below (Nat.le_refl _)⟩
theorem VRs_all {m : Mp} : ∀ {xs : List AV} {cs : List Value}, xs.length = cs.length → (∀ (i : Nat) x c, xs[i]? = some x → cs[i]? = some c → VR m x c) → VRs m xs cs
 | [], [], _, _ => by simp only [VRs]
 | [], _ :: _, h, _ => by cases h
 | _ :: _, [], h, _ => by cases h
 | x :: xs, c :: cs, h, k => by
  simp only [VRs]
  exact ⟨c, cs, rfl, k 0 x c rfl rfl, VRs_all (by simpa using h) (fun i x' c' hx hc => k (i + 1) x' c' (by simpa using hx) (by simpa using hc))⟩
theorem cell_add {w : World} {x : Addr} {i : Nat} {v : Value} (h : w.cell? (x.add i) = some v) : ∃ cs ty fr, w.heap[x.block]? = some (.cells cs ty fr) ∧ cs[x.off + i]? = some v ∧ (i = 0 → x.spot = none) := by
 have hb : (x.add i).block = x.block := by unfold Addr.add; split <;> rfl
 have ho : (x.add i).off = x.off + i := by unfold Addr.add; split <;> simp_all
 have hs : i = 0 → (x.add i).spot = x.spot := by intro e; subst e; rfl
 unfold World.cell? at h
 rw [hb, ho] at h
 cases hw : w.heap[x.block]? with
 | none => rw [hw] at h; cases h
 | some o =>
  rw [hw] at h
  cases o with
  | cells cs ty fr =>
   simp only [] at h
   cases hsp : (x.add i).spot with
   | none => rw [hsp] at h; exact ⟨cs, ty, fr, rfl, by simpa using h, fun e => by rw [← hs e, hsp]⟩
   | some q => rw [hsp] at h; simp at h
  | _ => simp at h
section
variable {H : Type} {enc : TypeId × Value → H} {P : Program} {w : World} {base : Nat} {held : Bool}
end
end Go.Proofs.Ytbmijiibfaacmaa.Am
set_option linter.unusedVariables false
namespace Go.Proofs.Ytbmijiibfaacmaa.Am
open Go Go.ChangeShapes Go.WideShapes
def IsRowG (n : Nat) (w : World) (a : Option Addr) (len cap : Nat) (av : List AV) : Prop :=
 (a = none ∧ len = 0 ∧ cap = 0 ∧ av = []) ∨
 ∃ x, a = some x ∧ len ≤ cap ∧ av.length = len * n ∧ ∀ i v, av[i]? = some v → ∃ c, w.cell? (x.add i) = some c ∧ ∀ m, VR m v c
def frozOfG (a : Option Addr) (av : List AV) : Nat × List AV := match a with
 | none => (0, [])
 | some x => (x.block, List.replicate x.off .top ++ av)
theorem rowG_froz {n : Nat} {w : World} {a : Option Addr} {len cap : Nat} {av : List AV} (h : IsRowG n w a len cap av) (hne : av ≠ []) (fz : List (Nat × List AV)) :
 ∃ cs ty fr, w.heap[(frozOfG a av).1]? = some (.cells cs ty fr) ∧ (frozOfG a av).2.length ≤ cs.size ∧ VRs (mpOf fz) (frozOfG a av).2 (cs.toList.take (frozOfG a av).2.length) := by
 rcases h with ⟨_, _, _, rfl⟩ | ⟨x, rfl, hl, hz, hc⟩
 ·exact absurd rfl hne
 ·have hpos : 0 < av.length := List.length_pos_iff.2 hne
  obtain ⟨c0, h1, -⟩ := hc (av.length - 1) _ (List.getElem?_eq_getElem (by omega))
  obtain ⟨cs, ty, fr, hb, h0, -⟩ := cell_add h1
  have hsz : x.off + (av.length - 1) < cs.size := by
   rcases Nat.lt_or_ge (x.off + (av.length - 1)) cs.size with h | h
   ·exact h
   ·rw [Array.getElem?_eq_none h] at h0; cases h0
  refine ⟨cs, ty, fr, hb, by simp only [frozOfG, List.length_append, List.length_replicate]; omega, ?_⟩
  refine VRs_all (by simp only [frozOfG, List.length_append, List.length_replicate, List.length_take, Array.length_toList]; omega) ?_
  intro i v c hv hcv
  simp only [frozOfG] at hv hcv
  by_cases hi : i < x.off
  ·rw [List.getElem?_append_left (by simpa using hi)] at hv
   rw [List.getElem?_replicate, if_pos hi] at hv
   cases hv
   simp only [VR]
  ·rw [List.getElem?_append_right (by simpa using Nat.le_of_not_lt hi), List.length_replicate] at hv
   have hlt : i - x.off < av.length := (List.getElem?_eq_some_iff.1 hv).1
   obtain ⟨c', h2, h3⟩ := hc (i - x.off) v hv
   obtain ⟨cs', ty', fr', hb', h4, -⟩ := cell_add h2
   rw [hb] at hb'
   cases hb'
   rw [show x.off + (i - x.off) = i from by omega] at h4
   rw [List.getElem?_take_of_lt (by simp only [List.length_append, List.length_replicate]; omega), Array.getElem?_toList, h4] at hcv
   cases hcv
   exact h3 _
theorem rowG_len {n : Nat} {w : World} {a : Option Addr} {len cap : Nat} {av : List AV} (h : IsRowG n w a len cap av) : av.length = len * n := by
 rcases h with ⟨_, rfl, _, rfl⟩ | ⟨x, _, _, hz, _⟩
 ·simp
 ·exact hz
theorem rowG_VR {n : Nat} {w : World} {a : Option Addr} {len cap : Nat} {av : List AV} (h : IsRowG n w a len cap av) (hn : 0 < n) (fz : List (Nat × List AV)) (id : Nat) (hid : av ≠ [] → fz[id]? = some (frozOfG a av)) : VR (mpOf fz) (.vec len n av) (.slice a len cap) := by
 simp only [VR]
 refine ⟨rowG_len h, a, cap, rfl, ?_, ?_, ?_⟩
 ·rcases h with ⟨_, rfl, rfl, rfl⟩ | ⟨x, _, hl, hz, _⟩
  ·exact Nat.le_refl _
  ·exact hl
 ·intro ha
  rcases h with ⟨_, rfl, rfl, rfl⟩ | ⟨x, hx, _, _, _⟩
  ·exact ⟨rfl, rfl⟩
  ·rw [hx] at ha; cases ha
 ·intro hpos
  have hp2 : 0 < av.length := by rw [rowG_len h]; exact Nat.mul_pos hpos hn
  have hne : av ≠ [] := List.length_pos_iff.1 hp2
  have hf := hid hne
  rcases h with ⟨_, _, _, rfl⟩ | ⟨x, rfl, hl, hz, hc⟩
  ·exact absurd rfl hne
  ·obtain ⟨c, h1, -⟩ := hc 0 _ (List.getElem?_eq_getElem hp2)
   obtain ⟨cs, ty, fr, hb, h0, hsp⟩ := cell_add h1
   have hspot := hsp rfl
   refine ⟨id, x.block, x.off, _, hf, ?_, ?_, ?_⟩
   ·cases x; simp only at hspot; rw [hspot]
   ·rw [List.drop_append_of_le_length (by simp), List.drop_of_length_le (by simp), List.nil_append]
    exact List.take_of_length_le (by omega)
   ·simp; omega
def fzOfG (a : Option Addr) (av : List AV) : List (Nat × List AV) := if av = [] then [] else [frozOfG a av]
theorem fzOfG_mem {a : Option Addr} {av : List AV} {p : Nat × List AV} (h : p ∈ fzOfG a av) : av ≠ [] ∧ p = frozOfG a av := by
 unfold fzOfG at h
 split at h
 ·cases h
 ·exact ⟨by assumption, List.mem_singleton.1 h⟩
theorem fzOfG_get {a : Option Addr} {av : List AV} (A B : List (Nat × List AV)) (h : av ≠ []) : (A ++ (fzOfG a av ++ B))[A.length]? = some (frozOfG a av) := by
 unfold fzOfG
 rw [if_neg h]
 simp
theorem add_add' (x : Addr) (i j : Nat) : (x.add i).add j = x.add (i + j) := by
 unfold Addr.add
 by_cases hi : i = 0
 ·subst hi; simp
 ·by_cases hj : j = 0
  ·subst hj; simp
  ·simp [hi, hj, Nat.add_assoc]
theorem VRs_get {m : Mp} : ∀ {xs : List AV} {cs : List Value}, VRs m xs cs → xs.length = cs.length ∧ ∀ (i : Nat) x, xs[i]? = some x → ∃ c, cs[i]? = some c ∧ VR m x c
 | [], cs, h => by
  simp only [VRs] at h; subst h
  exact ⟨rfl, fun i x hx => by simp at hx⟩
 | x :: xs, cs, h => by
  simp only [VRs] at h
  obtain ⟨y, ys, rfl, h1, h2⟩ := h
  obtain ⟨q1, q2⟩ := VRs_get h2
  refine ⟨by simp [q1], fun i z hz => ?_⟩
  cases i with
  | zero => simp at hz; subst hz; exact ⟨y, rfl, h1⟩
  | succ i => simpa using q2 i z (by simpa using hz)
section
variable {H : Type} {enc : TypeId × Value → H} {P : Program} {w : World} {base : Nat} {held : Bool}
theorem rowG_open {α : Type} {Q : α → Prop} {en : α → List AV} {n : Nat} {t e : TypeId} {a : Option Addr} {len cap : Nat} {d : DataW H} {ps : List MemPlace} (ht : P.underlying t = some (.slice e)) (hc : P.cellsOf e = n) (hlen : ∀ x, (en x).length = n)
 (hel : ∀ fuel cs y, DataW.trod enc P w base (fun _ => true) held fuel e cs = some y → ∃ x, Q x ∧ ∀ m, VRs m (en x) cs)
 (h : DataW.Trod enc P w base (fun _ => true) held t (.slice a len cap) d ps) : ∃ L : List α, IsRowG n w a len cap (L.flatMap en) ∧ L.length = len ∧ (∀ x ∈ L, Q x) ∧ len ≤ maxLen := by
 obtain ⟨fuel, hf⟩ := h
 rcases DataW.trod_slice ht hf with ⟨hcs, _⟩ | ⟨x, l, c, elems, rest, q, _, hcs, _, hb, hl, hm, hlq, hel', _, _⟩
 ·simp [Value.cells] at hcs
  obtain ⟨rfl, rfl, rfl⟩ := hcs
  exact ⟨[], .inl ⟨rfl, rfl, rfl, rfl⟩, rfl, (fun x hx => by cases hx), Nat.zero_le _⟩
 ·simp [Value.cells] at hcs
  obtain ⟨rfl, rfl, rfl⟩ := hcs
  have each : ∀ i, i < len → ∃ y, Q y ∧ ∃ cs, w.cells? base (x.add (i * n)) n = some cs ∧ ∀ m, VRs m (en y) cs := by
   intro i hi
   have h1 := hel' i hi
   rw [List.getElem?_eq_getElem (by omega), hc, Option.bind_eq_some_iff] at h1
   obtain ⟨cs, h2, h3⟩ := h1
   obtain ⟨y, h4, h5⟩ := hel _ _ _ h3
   exact ⟨y, h4, cs, h2, h5⟩
  have build : ∀ k, k ≤ len → ∃ L : List α, L.length = k ∧ (∀ y ∈ L, Q y) ∧ ∀ i v, (L.flatMap en)[i]? = some v → ∃ c, w.cell? (x.add i) = some c ∧ ∀ m, VR m v c := by
   intro k
   induction k with
   | zero => intro _; exact ⟨[], rfl, (fun y hy => by cases hy), (fun i v hv => by simp at hv)⟩
   | succ k ih =>
    intro hk
    obtain ⟨L, h1, h2, h3⟩ := ih (by omega)
    obtain ⟨y, h4, cs, h5, h6⟩ := each k (by omega)
    refine ⟨L ++ [y], by simp [h1], ?_, ?_⟩
    ·intro z hz
     rcases List.mem_append.1 hz with hz | hz
     ·exact h2 z hz
     ·rw [List.mem_singleton.1 hz]; exact h4
    ·intro i v hv
     have fl : (L.flatMap en).length = k * n := by rw [flatMap_len hlen, h1]
     rw [List.flatMap_append] at hv
     by_cases hi : i < k * n
     ·rw [List.getElem?_append_left (by omega)] at hv
      exact h3 i v hv
     ·rw [List.getElem?_append_right (by omega), fl] at hv
      simp only [List.flatMap_cons, List.flatMap_nil, List.append_nil] at hv
      obtain ⟨g1, g2⟩ := VRs_get (h6 ⟨fun _ _ => none, fun _ => none⟩)
      obtain ⟨c, g3, -⟩ := g2 _ _ hv
      refine ⟨c, ?_, fun m => ?_⟩
      ·have g4 := World.cells?_some h5
       have hlt : i - k * n < n := by
        have := (List.getElem?_eq_some_iff.1 hv).1
        rw [hlen] at this; exact this
       have g5 := g4.2.2 (i - k * n) hlt
       rw [g3] at g5
       rw [← g5]
       rw [add_add', show k * n + (i - k * n) = i by omega]
      ·obtain ⟨c', g6, g7⟩ := (VRs_get (h6 m)).2 _ _ hv
       rw [g3] at g6
       cases g6
       exact g7
  obtain ⟨L, h1, h2, h3⟩ := build len (Nat.le_refl _)
  exact ⟨L, .inr ⟨_, rfl, hl, by rw [flatMap_len hlen, h1], h3⟩, h1, h2, by omega⟩
end
theorem VRs_nil (m : Mp) : VRs m [] [] := by simp only [VRs]
theorem VRs_cons {m : Mp} {x : AV} {y : Value} {xs : List AV} {ys : List Value} (h : VR m x y) (k : VRs m xs ys) : VRs m (x :: xs) (y :: ys) := by simp only [VRs]; exact ⟨y, ys, rfl, h, k⟩
theorem VR_int (m : Mp) (k : IntKind) (n : Int) : VR m (.int k n) (.int k n) := by simp only [VR]
theorem VR_str (m : Mp) (s : ByteArray) : VR m (.str (s.data.toList.map (·.toNat))) (.string s) := by simp only [VR]; exact ⟨s, rfl, rfl⟩
end Go.Proofs.Ytbmijiibfaacmaa.Am
set_option linter.unusedVariables false
set_option linter.unusedSimpArgs false
namespace Go.Proofs.Ytbmijiibfaacmaa.Am
open Go Go.ChangeShapes Go.WideShapes
theorem opn47 {H : Type} {enc : TypeId × Value → H} {w : World} {base : Nat} {sp : Nat → Bool} {held : Bool} {fuel : Nat} {cs : List Value} {y : DataW H × List MemPlace} (h : DataW.trod enc Try.prog w base sp held fuel 47 cs = some y) : ∃ x : S46, ((-9223372036854775808 ≤ x.f0 ∧ x.f0 ≤ 9223372036854775807) ∧ ((∀ b ∈ x.f1, b < 256) ∧ x.f1.length ≤ 9223372036854775807) ∧ (-9223372036854775808 ≤ x.f2 ∧ x.f2 ≤ 9223372036854775807) ∧ True) ∧ ∀ m, VRs m (e47 x) cs := by
 obtain ⟨xs, n, -, -, hl, hx, hf⟩ := DataW.trod_struct Try.underlying47 h
 rw [show Try.prog.cellsOf 47 = 3 from by kernel_rfl] at hl
 obtain ⟨c0, c1, c2, rfl⟩ : ∃ c0 c1 c2, cs = [c0, c1, c2] := match cs, hl with | [c0, c1, c2], _ => ⟨c0, c1, c2, rfl⟩
 have hf0 : DataW.trod enc Try.prog w base sp held n 3 (([c0, c1, c2].drop 0).take (Try.prog.cellsOf 3)) = xs[0]? := hf 0 _ rfl
 rw [show Try.prog.cellsOf 3 = 1 from by kernel_rfl, List.getElem?_eq_getElem (by rw [hx]; show 0 < 3; decide)] at hf0
 have hf0 : DataW.trod enc Try.prog w base sp held n 3 [c0] = some _ := hf0
 obtain ⟨n0, z0, -, w0⟩ := DataW.trod_int Try.underlying3 hf0
 have y0 := (List.cons.inj z0).1
 have hf1 : DataW.trod enc Try.prog w base sp held n 9 (([c0, c1, c2].drop 1).take (Try.prog.cellsOf 9)) = xs[1]? := hf 1 _ rfl
 rw [show Try.prog.cellsOf 9 = 1 from by kernel_rfl, List.getElem?_eq_getElem (by rw [hx]; show 1 < 3; decide)] at hf1
 have hf1 : DataW.trod enc Try.prog w base sp held n 9 [c1] = some _ := hf1
 obtain ⟨n1, z1, -, w1⟩ := DataW.trod_string Try.underlying9 hf1
 have y1 := (List.cons.inj z1).1
 have hf2 : DataW.trod enc Try.prog w base sp held n 3 (([c0, c1, c2].drop 2).take (Try.prog.cellsOf 3)) = xs[2]? := hf 2 _ rfl
 rw [show Try.prog.cellsOf 3 = 1 from by kernel_rfl, List.getElem?_eq_getElem (by rw [hx]; show 2 < 3; decide)] at hf2
 have hf2 : DataW.trod enc Try.prog w base sp held n 3 [c2] = some _ := hf2
 obtain ⟨n2, z2, -, w2⟩ := DataW.trod_int Try.underlying3 hf2
 have y2 := (List.cons.inj z2).1
 subst y0 y1 y2
 exact ⟨⟨n0, (n1.data.toList.map (·.toNat)), n2⟩, ⟨(by simpa [Lit.wf, IntKind.min, IntKind.max, IntKind.signed, IntKind.bits] using w0), ⟨bytes_lt n1, by simpa [maxLen] using w1⟩, (by simpa [Lit.wf, IntKind.min, IntKind.max, IntKind.signed, IntKind.bits] using w2), trivial⟩, fun m => VRs_cons (VR_int m .i64 n0) (VRs_cons (VR_str m n1) (VRs_cons (VR_int m .i64 n2) (VRs_nil m)))⟩
theorem gapDeep_walk (v0 : Option Addr) (len0 cap0 : Nat) (z0 : List S46) (W : World) (w0 : IsRowG 3 W v0 len0 cap0 (z0.flatMap e47)) (l0 : z0.length = len0) (q0 : ∀ x ∈ z0, (-9223372036854775808 ≤ x.f0 ∧ x.f0 ≤ 9223372036854775807) ∧ ((∀ b ∈ x.f1, b < 256) ∧ x.f1.length ≤ 9223372036854775807) ∧ (-9223372036854775808 ≤ x.f2 ∧ x.f2 ≤ 9223372036854775807) ∧ True) (y0 : len0 ≤ maxLen) : Calls Try.prog 11 #[.slice v0 len0 cap0] W fun e W' => e = .returned (.bool true) ∧ RowKit.Below W.heap.size W W' := by
 obtain ⟨k, h⟩ := gapDeep_true z0 q0 (by rw [l0]; simpa [maxLen] using y0)
 refine law_walk_fz (g11_ok k z0 true h) W (fzOfG v0 (z0.flatMap e47) ++ []) ?_ ?_
 ·exact VRs_cons ((by rw [l0]; exact rowG_VR w0 (by decide) _ (([] : List (Nat × List AV))).length (fun h => fzOfG_get (([] : List (Nat × List AV))) _ h))) (VRs_nil _)
 intro p hp
 rcases List.mem_append.1 hp with hp | hp
 ·obtain ⟨hne, rfl⟩ := fzOfG_mem hp
  exact rowG_froz w0 hne _
 cases hp
end Go.Proofs.Ytbmijiibfaacmaa.Am
namespace Go.Proofs.Ytbmijiibfaacmaa.gapDeep
open Go.ChangeShapes Go.WideShapes Go.ChangeAt Go.RowKit
open Go.ChangeMaps (open_string shut_string)
set_option linter.unusedVariables false
theorem laidOut : laidOutB Try.prog = true := by kernel_rfl
theorem own : ownKnob Try.prog.godebug = none := by kernel_rfl
set_option maxRecDepth 100000 in
theorem lifted (os : Os) (started : os.Started) (H : Type) (enc : TypeId × Value → H) :
 ReturnsInHanded {} Try.checked os 11 .any (Rows.gapDeepSpec.pre6 enc Try.prog Try.f11 Rows.gapDeepRow.domain false) (Rows.gapDeepSpec.post enc Try.prog Try.f11 false true false false) := by
 refine returnsInHanded_of_change_sized (C := Try.checked) own started (by kernel_rfl) Try.func11
  (ChangeSpec.witness6 (enc := enc) (C := Try.checked) false ⟨#[], #[.slice none 0 0], []⟩ 8 (by kernel_rfl) (by kernel_rfl) (by kernel_rfl) (by kernel_rfl)) ?_
 intro W base args ds gs before hval0 hW hcnd hsz0 _
 have hsz : (DataW.weightsEach Try.prog (Try.f11.params.toList ++ Rows.gapDeepSpec.plain.varTypes Try.prog) (ds ++ gs)).all (· ≤ reachBytes) = true := hsz0
 have hval : ∀ (j : Nat) t v, Try.f11.params[j]? = some t → args[j]? = some v → Value.okWide Try.prog W .any base t v := hval0
 have hW' := hW
 obtain ⟨p, q, hA0, hV, rfl, hfz, hnd⟩ := hW
 have hA : DataW.TrodAll enc Try.prog W 0 (fun _ => true) true Try.f11.params.toList args.toList ds p := hA0
 rw [Try.params11] at hA hval hsz
 obtain ⟨v0, vs0, d0, ds0, p0, q0, hargs, rfl, rfl, h0, r0⟩ := trodAll_cons hA
 obtain ⟨rfl, rfl, rfl⟩ := trodAll_nil r0
 obtain rfl : args = #[v0] := by cases args; simp_all
 obtain ⟨rfl, rfl⟩ := trodVars_none hV
 obtain ⟨v0a, len0, cap0, rfl⟩ := okWide_slice Try.underlying38 (hval 0 38 v0 rfl rfl)
 have k0 := h0
 have lt0 : ∀ x ∈ p0, x.block < W.heap.size := by obtain ⟨m, hm⟩ := k0; exact DataW.trod_lt m _ _ _ hm
 obtain ⟨z0, w0, l0, z0q, y0⟩ := Am.rowG_open (en := Am.e47) (n := 3) Try.underlying38 (by kernel_rfl) Am.e47_len (fun _ _ _ h => Am.opn47 h) h0
 clear hA0 hval0 hsz0 hsz
 refine (Am.gapDeep_walk v0a len0 cap0 z0 W w0 l0 z0q y0).mono fun e W' ⟨he, bel⟩ => ?_
 subst he
 exact ⟨_, rfl, _, _, _, [], _, [], hW', trodAll_mk1 (shut_bool Try.underlying4 _), (trodAll_cons_mk (Below.trod laidOut (by kernel_rfl) (of_decide_eq_true (by kernel_rfl)) k0 bel lt0) trodAll_mk0), rfl, bel.frame _, fun h => by cases h⟩
theorem over : Rows.gapDeepRow.holds Try.pinned (OpenSpec.ofChange Rows.gapDeepSpec) :=
 OpenClaim.holds_of_wide 11 Try.f11 rfl rfl rfl rfl rfl rfl rfl ⟨rfl, rfl, rfl, rfl, rfl⟩ rfl rfl rfl rfl rfl (by kernel_rfl) Try.func11 (by kernel_rfl)
  (of_decide_eq_true (by kernel_rfl)) (by unfold Func.isWrapper; first | (rw [if_pos (by decide +kernel)]; kernel_rfl) | (rw [if_neg (by decide +kernel)]; exact ⟨rfl, rfl⟩))
  (fun os started H enc _ => lifted os started H enc)
theorem proved : Rows.GapDeepSaid := over
#print axioms proved
end Go.Proofs.Ytbmijiibfaacmaa.gapDeep
namespace Go.Proofs.Ytbmijiibfaacmaa
theorem gapDeep_holds : Rows.GapDeepSaid := gapDeep.proved
end Go.Proofs.Ytbmijiibfaacmaa
