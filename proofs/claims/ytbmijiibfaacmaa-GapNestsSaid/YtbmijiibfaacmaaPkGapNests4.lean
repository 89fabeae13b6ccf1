/- LawGapNests, part 4: whatever the input, the law comes out true: our texts, joined by a tool, without what the claim does not name. -/
import Derived.Test.YtbmijiibfaacmaaPkGapNests3
import Derived.Below
import Derived.Test.YtbmijiibfaacmaaRows
import Derived.WalkKit
import Derived.ProofKit
import Derived.OpenShut
import Derived.ShutString
import Derived.ChangeOld
import Derived.SizedLaws
set_option maxRecDepth 100000
set_option linter.unusedVariables false
namespace Go.Proofs.Ytbmijiibfaacmaa.Am
noncomputable section
open Go
theorem g52_ok (k : Nat) (a0 : S46) (r : Bool) (h : g52 k a0 = some r) : PureOk Try.prog 52 [.agg [.int .i64 a0.f0, .str a0.f1, .int .i64 a0.f2]] (.bool r) := by
 refine pure_of X52 (fun _ => rfl) Try.func52 (by decide +kernel) (by kernel_rfl) (t := g52 k a0) ?_ h
 unfold g52
 refine oE (eE := [(0, .agg [.int .i64 a0.f0, .str a0.f1, .int .i64 a0.f2])]) (by kernel_rfl) ?_
 let E1 : Env := [(5, .bool (decide (a0.f0 = 9))), (4, .int .i64 a0.f0), (3, .ptr 0 3 0), (2, .bool false), (1, .ptr 0 3 0), (0, .agg [.int .i64 a0.f0, .str a0.f1, .int .i64 a0.f2])]
 refine oR 12 (p' := g52p2) (eE := E1) (H' := (mkH [⟨[.int .i64 a0.f0, .str a0.f1, .int .i64 a0.f2], 0, false⟩])) (by kernel_rfl) ?_
 refine oS 5 (b := decide (a0.f0 = 9)) (by kernel_rfl) (fun hb => ?_) (fun hb => ?_)
 ·let E2 : Env := ((9, .bool (eqL a0.f1 [41])) :: (8, .bool (eqL a0.f1 [41])) :: (7, .str a0.f1) :: (6, .ptr 0 3 1) :: (5, .bool true) :: E1)
  refine oR 7 (p' := (atN 4 (ctl1 g52p3))) (eE := E2) (H' := (mkH [⟨[.int .i64 a0.f0, .str a0.f1, .int .i64 a0.f2], 0, false⟩])) (by kernel_rfl) ?_
  refine oS 9 (b := eqL a0.f1 [41]) (by kernel_rfl) (fun hb => ?_) (fun hb => ?_)
  ·let E3 : Env := ((2, .bool true) :: (23, .bool true) :: (22, .tuple []) :: (21, .tuple []) :: (20, .tuple []) :: (19, .bool true) :: (18, .bool true) :: (17, .tuple []) :: (16, .tuple []) :: (15, .tuple []) :: (14, .bool true) :: (13, .bool true) :: (12, .tuple []) :: (11, .tuple []) :: (10, .tuple []) :: (9, .bool true) :: E2)
   refine oR 17 (p' := .fin) (eE := E3) (H' := (mkH [⟨[.int .i64 a0.f0, .str a0.f1, .int .i64 a0.f2], 0, false⟩])) (by kernel_rfl) ?_
   exact oT (r := true) (xs := [.bool true]) (v := .bool true) (by kernel_rfl) (by kernel_rfl) (by kernel_rfl) (.pures (by kernel_rfl)) (by kernel_rfl)
  ·let E4 : Env := ((14, .bool (eqL a0.f1 [125])) :: (13, .bool (eqL a0.f1 [125])) :: (12, .bool (eqL a0.f1 [125])) :: (11, .str a0.f1) :: (10, .ptr 0 3 1) :: (9, .bool false) :: E2)
   refine oR 5 (p' := (atN 9 (ctl1 g52p3))) (eE := E4) (H' := (mkH [⟨[.int .i64 a0.f0, .str a0.f1, .int .i64 a0.f2], 0, false⟩])) (by kernel_rfl) ?_
   refine oS 14 (b := eqL a0.f1 [125]) (by kernel_rfl) (fun hb => ?_) (fun hb => ?_)
   ·let E5 : Env := ((2, .bool true) :: (23, .bool true) :: (22, .tuple []) :: (21, .tuple []) :: (20, .tuple []) :: (19, .bool true) :: (18, .bool true) :: (17, .tuple []) :: (16, .tuple []) :: (15, .tuple []) :: (14, .bool true) :: E4)
    refine oR 12 (p' := .fin) (eE := E5) (H' := (mkH [⟨[.int .i64 a0.f0, .str a0.f1, .int .i64 a0.f2], 0, false⟩])) (by kernel_rfl) ?_
    exact oT (r := true) (xs := [.bool true]) (v := .bool true) (by kernel_rfl) (by kernel_rfl) (by kernel_rfl) (.pures (by kernel_rfl)) (by kernel_rfl)
   ·let E6 : Env := ((19, .bool (eqL a0.f1 [93])) :: (18, .bool (eqL a0.f1 [93])) :: (17, .bool (eqL a0.f1 [93])) :: (16, .str a0.f1) :: (15, .ptr 0 3 1) :: (14, .bool false) :: E4)
    refine oR 5 (p' := (atN 14 (ctl1 g52p3))) (eE := E6) (H' := (mkH [⟨[.int .i64 a0.f0, .str a0.f1, .int .i64 a0.f2], 0, false⟩])) (by kernel_rfl) ?_
    refine oS 19 (b := eqL a0.f1 [93]) (by kernel_rfl) (fun hb => ?_) (fun hb => ?_)
    ·let E7 : Env := ((2, .bool true) :: (23, .bool true) :: (22, .tuple []) :: (21, .tuple []) :: (20, .tuple []) :: (19, .bool true) :: E6)
     refine oR 7 (p' := .fin) (eE := E7) (H' := (mkH [⟨[.int .i64 a0.f0, .str a0.f1, .int .i64 a0.f2], 0, false⟩])) (by kernel_rfl) ?_
     exact oT (r := true) (xs := [.bool true]) (v := .bool true) (by kernel_rfl) (by kernel_rfl) (by kernel_rfl) (.pures (by kernel_rfl)) (by kernel_rfl)
    ·let E8 : Env := ((2, .bool (eqL a0.f1 [62, 62])) :: (23, .bool (eqL a0.f1 [62, 62])) :: (22, .bool (eqL a0.f1 [62, 62])) :: (21, .str a0.f1) :: (20, .ptr 0 3 1) :: (19, .bool false) :: E6)
     refine oR 7 (p' := .fin) (eE := E8) (H' := (mkH [⟨[.int .i64 a0.f0, .str a0.f1, .int .i64 a0.f2], 0, false⟩])) (by kernel_rfl) ?_
     exact oT (r := (eqL a0.f1 [62, 62])) (xs := [.bool (eqL a0.f1 [62, 62])]) (v := .bool (eqL a0.f1 [62, 62])) (by kernel_rfl) (by kernel_rfl) (by kernel_rfl) (.pures (by kernel_rfl)) (by kernel_rfl)
 ·let E9 : Env := ((27, .bool (decide (a0.f0 = 8))) :: (26, .bool (decide (a0.f0 = 8))) :: (25, .int .i64 a0.f0) :: (24, .ptr 0 3 0) :: (5, .bool false) :: E1)
  refine oR 8 (p' := (atN 4 (ctl1 g52p4))) (eE := E9) (H' := (mkH [⟨[.int .i64 a0.f0, .str a0.f1, .int .i64 a0.f2], 0, false⟩])) (by kernel_rfl) ?_
  refine oS 27 (b := decide (a0.f0 = 8)) (by kernel_rfl) (fun hb => ?_) (fun hb => ?_)
  ·let E10 : Env := ((2, .bool (eqL a0.f1 [101, 110, 100])) :: (31, .bool (eqL a0.f1 [101, 110, 100])) :: (30, .bool (eqL a0.f1 [101, 110, 100])) :: (29, .str a0.f1) :: (28, .ptr 0 3 1) :: (27, .bool true) :: E9)
   refine oR 7 (p' := .fin) (eE := E10) (H' := (mkH [⟨[.int .i64 a0.f0, .str a0.f1, .int .i64 a0.f2], 0, false⟩])) (by kernel_rfl) ?_
   exact oT (r := (eqL a0.f1 [101, 110, 100])) (xs := [.bool (eqL a0.f1 [101, 110, 100])]) (v := .bool (eqL a0.f1 [101, 110, 100])) (by kernel_rfl) (by kernel_rfl) (by kernel_rfl) (.pures (by kernel_rfl)) (by kernel_rfl)
  ·let E11 : Env := ((2, .bool false) :: (31, .bool false) :: (30, .tuple []) :: (29, .tuple []) :: (28, .tuple []) :: (27, .bool false) :: E9)
   refine oR 7 (p' := .fin) (eE := E11) (H' := (mkH [⟨[.int .i64 a0.f0, .str a0.f1, .int .i64 a0.f2], 0, false⟩])) (by kernel_rfl) ?_
   exact oT (r := false) (xs := [.bool false]) (v := .bool false) (by kernel_rfl) (by kernel_rfl) (by kernel_rfl) (.pures (by kernel_rfl)) (by kernel_rfl)
end
end Go.Proofs.Ytbmijiibfaacmaa.Am
set_option maxRecDepth 100000
set_option linter.unusedVariables false
namespace Go.Proofs.Ytbmijiibfaacmaa.Am
noncomputable section
open Go
def X39 : Fx Int := ⟨Try.prog, cx, Try.f39, fun r => .int .i64 r, 0, fun _ => H0, cxTi, cxOrd⟩
def X39f50_0 (a_0 : Int) (b_1 : (List S46)) (b_2 : Int) (b_3 : (List Nat)) (b_4 : Int) : Fx Bool := ⟨Try.prog, cx, Try.f50, fun r => .bool r, 2, fun r => (mkH [⟨[.vec (b_1).length 3 ((b_1).flatMap e47)], 0, false⟩, ⟨[.int .i64 b_2, .str b_3, .int .i64 b_4], 3, false⟩]), cxTi, cxOrd⟩
def g39f50_0p0 : Pt := nav [0] (bodyAt Try.f50)
def g39f50_0p1 : Pt := nav [0, 0, 0] g39f50_0p0
def g39f50_0 (k : Nat) (a_0 : Int) (b_1 : (List S46)) (b_2 : Int) (b_3 : (List Nat)) (b_4 : Int) : Option Bool :=
 (nthL b_1 a_0).bind fun x0_2 => (g51 k (⟨x0_2.f0, x0_2.f1, x0_2.f2⟩ : S46)).bind fun x0_4 => if x0_4 then (some true) else ((nthL b_1 a_0).bind fun x0_8 => if (decide (x0_8.f0 = 8)) then ((nthL b_1 a_0).bind fun x0_15 => if (eqL x0_15.f1 [102, 117, 110]) then (if (decide (fW .i64 (a_0 + 1) < (b_1.length : Int))) then ((nthL b_1 (fW .i64 (a_0 + 1))).bind fun x0_31 => if (decide (x0_31.f0 = 9)) then ((nthL b_1 (fW .i64 (a_0 + 1))).bind fun x0_40 => some (eqL x0_40.f1 [40])) else (some false)) else (some false)) else (some false)) else (some false))
theorem g39f50_0_ok (k : Nat) (a_0 : Int) (b_1 : (List S46)) (b_2 : Int) (b_3 : (List Nat)) (b_4 : Int) (r : Bool) (h : g39f50_0 k a_0 b_1 b_2 b_3 b_4 = some r) : CallV Try.prog 50 [.int .i64 a_0, .ptr 0 1 0] (mkH [⟨[.vec (b_1).length 3 ((b_1).flatMap e47)], 0, false⟩, ⟨[.int .i64 b_2, .str b_3, .int .i64 b_4], 3, false⟩]) (.bool r) (mkH [⟨[.vec (b_1).length 3 ((b_1).flatMap e47)], 0, false⟩, ⟨[.int .i64 b_2, .str b_3, .int .i64 b_4], 3, false⟩]) := by
 refine callM_of (X39f50_0 a_0 b_1 b_2 b_3 b_4) Try.func50 (by kernel_rfl) (by kernel_rfl) rfl (t := g39f50_0 k a_0 b_1 b_2 b_3 b_4) ?_ h
 unfold g39f50_0
 refine oE (eE := [(0, .int .i64 a_0), (1, .ptr 0 1 0)]) (by kernel_rfl) ?_
 let E1 : Env := [(5, .int .i64 a_0), (4, .vec (b_1).length 3 ((b_1).flatMap e47)), (3, .bool false), (0, .int .i64 a_0), (1, .ptr 0 1 0)]
 refine oR 8 (p' := (atN 2 (ctl1 g39f50_0p1))) (eE := E1) (H' := (mkH [⟨[.vec (b_1).length 3 ((b_1).flatMap e47)], 0, false⟩, ⟨[.int .i64 b_2, .str b_3, .int .i64 b_4], 3, false⟩])) (by kernel_rfl) ?_
 refine oH (fun (x0_2 : S46) => (.vptr [.int .i64 x0_2.f0, .str x0_2.f1, .int .i64 x0_2.f2], (mkH [⟨[.vec (b_1).length 3 ((b_1).flatMap e47)], 0, false⟩, ⟨[.int .i64 b_2, .str b_3, .int .i64 b_4], 3, false⟩]))) (atN 3 (ctl1 g39f50_0p1)) (fun x0_2 => ((6, .vptr [.int .i64 x0_2.f0, .str x0_2.f1, .int .i64 x0_2.f2]) :: E1)) (vidxH (sz := 3) e47_len (by kernel_rfl)) (fun _ => by kernel_rfl) (fun x0_2 hx0_2 => ?_)
 refine oR 1 (p' := (atN 4 (ctl1 g39f50_0p1))) (eE := ((7, .agg [.int .i64 x0_2.f0, .str x0_2.f1, .int .i64 x0_2.f2]) :: (6, .vptr [.int .i64 x0_2.f0, .str x0_2.f1, .int .i64 x0_2.f2]) :: E1)) (H' := (mkH [⟨[.vec (b_1).length 3 ((b_1).flatMap e47)], 0, false⟩, ⟨[.int .i64 b_2, .str b_3, .int .i64 b_4], 3, false⟩])) (by kernel_rfl) ?_
 refine oC (fun (x0_4 : Bool) => .bool x0_4) (atN 5 (ctl1 g39f50_0p1)) (fun x0_4 => ((8, .bool x0_4) :: (7, .agg [.int .i64 x0_2.f0, .str x0_2.f1, .int .i64 x0_2.f2]) :: (6, .vptr [.int .i64 x0_2.f0, .str x0_2.f1, .int .i64 x0_2.f2]) :: E1)) (fi := 51) (args := [.agg [.int .i64 x0_2.f0, .str x0_2.f1, .int .i64 x0_2.f2]]) (by kernel_rfl) (by kernel_rfl) (fun _ => by kernel_rfl) (fun r h => g51_ok k (⟨x0_2.f0, x0_2.f1, x0_2.f2⟩ : S46) r h) (fun _ => by kernel_rfl) (fun x0_4 hx0_4 => ?_)
 refine oR 1 (p' := (atN 6 (ctl1 g39f50_0p1))) (eE := ((9, .bool x0_4) :: (8, .bool x0_4) :: (7, .agg [.int .i64 x0_2.f0, .str x0_2.f1, .int .i64 x0_2.f2]) :: (6, .vptr [.int .i64 x0_2.f0, .str x0_2.f1, .int .i64 x0_2.f2]) :: E1)) (H' := (mkH [⟨[.vec (b_1).length 3 ((b_1).flatMap e47)], 0, false⟩, ⟨[.int .i64 b_2, .str b_3, .int .i64 b_4], 3, false⟩])) (by kernel_rfl) ?_
 refine oS 9 (b := x0_4) (by kernel_rfl) (fun hb => ?_) (fun hb => ?_)
 ·let E2 : Env := ((3, .bool true) :: (49, .bool true) :: (48, .tuple []) :: (47, .tuple []) :: (46, .tuple []) :: (45, .tuple []) :: (44, .tuple []) :: (43, .tuple []) :: (42, .tuple []) :: (41, .tuple []) :: (40, .tuple []) :: (39, .tuple []) :: (38, .tuple []) :: (37, .tuple []) :: (36, .tuple []) :: (35, .tuple []) :: (34, .tuple []) :: (33, .tuple []) :: (32, .tuple []) :: (31, .tuple []) :: (30, .tuple []) :: (29, .tuple []) :: (28, .tuple []) :: (27, .tuple []) :: (26, .tuple []) :: (25, .tuple []) :: (24, .tuple []) :: (23, .tuple []) :: (22, .tuple []) :: (21, .tuple []) :: (20, .tuple []) :: (19, .tuple []) :: (18, .tuple []) :: (17, .tuple []) :: (16, .tuple []) :: (15, .tuple []) :: (14, .tuple []) :: (13, .tuple []) :: (12, .tuple []) :: (11, .tuple []) :: (10, .tuple []) :: (9, .bool true) :: (9, .bool x0_4) :: (8, .bool x0_4) :: (7, .agg [.int .i64 x0_2.f0, .str x0_2.f1, .int .i64 x0_2.f2]) :: (6, .vptr [.int .i64 x0_2.f0, .str x0_2.f1, .int .i64 x0_2.f2]) :: E1)
  refine oR 43 (p' := .fin) (eE := E2) (H' := (mkH [⟨[.vec (b_1).length 3 ((b_1).flatMap e47)], 0, false⟩, ⟨[.int .i64 b_2, .str b_3, .int .i64 b_4], 3, false⟩])) (by kernel_rfl) ?_
  refine oK [3] (eE := [(3, .bool true)]) (by kernel_rfl) ?_
  exact ok_retM (r := true) (xs := [.bool true]) (by kernel_rfl) (by kernel_rfl) (by kernel_rfl) (by kernel_rfl)
 ·let E3 : Env := ((11, .int .i64 a_0) :: (10, .vec (b_1).length 3 ((b_1).flatMap e47)) :: (9, .bool false) :: (9, .bool x0_4) :: (8, .bool x0_4) :: (7, .agg [.int .i64 x0_2.f0, .str x0_2.f1, .int .i64 x0_2.f2]) :: (6, .vptr [.int .i64 x0_2.f0, .str x0_2.f1, .int .i64 x0_2.f2]) :: E1)
  refine oR 2 (p' := (atN 8 (ctl1 g39f50_0p1))) (eE := E3) (H' := (mkH [⟨[.vec (b_1).length 3 ((b_1).flatMap e47)], 0, false⟩, ⟨[.int .i64 b_2, .str b_3, .int .i64 b_4], 3, false⟩])) (by kernel_rfl) ?_
  refine oH (fun (x0_8 : S46) => (.vptr [.int .i64 x0_8.f0, .str x0_8.f1, .int .i64 x0_8.f2], (mkH [⟨[.vec (b_1).length 3 ((b_1).flatMap e47)], 0, false⟩, ⟨[.int .i64 b_2, .str b_3, .int .i64 b_4], 3, false⟩]))) (atN 9 (ctl1 g39f50_0p1)) (fun x0_8 => ((12, .vptr [.int .i64 x0_8.f0, .str x0_8.f1, .int .i64 x0_8.f2]) :: E3)) (vidxH (sz := 3) e47_len (by kernel_rfl)) (fun _ => by kernel_rfl) (fun x0_8 hx0_8 => ?_)
  let E4 : Env := ((16, .bool (decide (x0_8.f0 = 8))) :: (15, .bool (decide (x0_8.f0 = 8))) :: (14, .int .i64 x0_8.f0) :: (13, .vptr [.int .i64 x0_8.f0, .str x0_8.f1, .int .i64 x0_8.f2]) :: (12, .vptr [.int .i64 x0_8.f0, .str x0_8.f1, .int .i64 x0_8.f2]) :: E3)
  refine oR 4 (p' := (atN 13 (ctl1 g39f50_0p1))) (eE := E4) (H' := (mkH [⟨[.vec (b_1).length 3 ((b_1).flatMap e47)], 0, false⟩, ⟨[.int .i64 b_2, .str b_3, .int .i64 b_4], 3, false⟩])) (by kernel_rfl) ?_
  refine oS 16 (b := decide (x0_8.f0 = 8)) (by kernel_rfl) (fun hb => ?_) (fun hb => ?_)
  ·refine oR 2 (p' := (atN 15 (ctl1 g39f50_0p1))) (eE := ((18, .int .i64 a_0) :: (17, .vec (b_1).length 3 ((b_1).flatMap e47)) :: (16, .bool true) :: E4)) (H' := (mkH [⟨[.vec (b_1).length 3 ((b_1).flatMap e47)], 0, false⟩, ⟨[.int .i64 b_2, .str b_3, .int .i64 b_4], 3, false⟩])) (by kernel_rfl) ?_
   refine oH (fun (x0_15 : S46) => (.vptr [.int .i64 x0_15.f0, .str x0_15.f1, .int .i64 x0_15.f2], (mkH [⟨[.vec (b_1).length 3 ((b_1).flatMap e47)], 0, false⟩, ⟨[.int .i64 b_2, .str b_3, .int .i64 b_4], 3, false⟩]))) (atN 16 (ctl1 g39f50_0p1)) (fun x0_15 => ((19, .vptr [.int .i64 x0_15.f0, .str x0_15.f1, .int .i64 x0_15.f2]) :: (18, .int .i64 a_0) :: (17, .vec (b_1).length 3 ((b_1).flatMap e47)) :: (16, .bool true) :: E4)) (vidxH (sz := 3) e47_len (by kernel_rfl)) (fun _ => by kernel_rfl) (fun x0_15 hx0_15 => ?_)
   let E5 : Env := ((24, .bool (eqL x0_15.f1 [102, 117, 110])) :: (23, .bool (eqL x0_15.f1 [102, 117, 110])) :: (22, .bool (eqL x0_15.f1 [102, 117, 110])) :: (21, .str x0_15.f1) :: (20, .vptr [.str x0_15.f1, .int .i64 x0_15.f2]) :: (19, .vptr [.int .i64 x0_15.f0, .str x0_15.f1, .int .i64 x0_15.f2]) :: (18, .int .i64 a_0) :: (17, .vec (b_1).length 3 ((b_1).flatMap e47)) :: (16, .bool true) :: E4)
   refine oR 5 (p' := (atN 21 (ctl1 g39f50_0p1))) (eE := E5) (H' := (mkH [⟨[.vec (b_1).length 3 ((b_1).flatMap e47)], 0, false⟩, ⟨[.int .i64 b_2, .str b_3, .int .i64 b_4], 3, false⟩])) (by kernel_rfl) ?_
   refine oS 24 (b := eqL x0_15.f1 [102, 117, 110]) (by kernel_rfl) (fun hb => ?_) (fun hb => ?_)
   ·let E6 : Env := ((31, .bool (decide (fW .i64 (a_0 + 1) < (b_1.length : Int)))) :: (30, .bool (decide (fW .i64 (a_0 + 1) < (b_1.length : Int)))) :: (29, .bool (decide (fW .i64 (a_0 + 1) < (b_1.length : Int)))) :: (28, .int .i64 (b_1.length : Int)) :: (27, .vec (b_1).length 3 ((b_1).flatMap e47)) :: (26, .int .i64 (fW .i64 (a_0 + 1))) :: (25, .int .i64 a_0) :: (24, .bool true) :: E5)
    refine oR 7 (p' := (atN 28 (ctl1 g39f50_0p1))) (eE := E6) (H' := (mkH [⟨[.vec (b_1).length 3 ((b_1).flatMap e47)], 0, false⟩, ⟨[.int .i64 b_2, .str b_3, .int .i64 b_4], 3, false⟩])) (by kernel_rfl) ?_
    refine oS 31 (b := decide (fW .i64 (a_0 + 1) < (b_1.length : Int))) (by kernel_rfl) (fun hb => ?_) (fun hb => ?_)
    ·refine oR 3 (p' := (atN 31 (ctl1 g39f50_0p1))) (eE := ((34, .int .i64 (fW .i64 (a_0 + 1))) :: (33, .int .i64 a_0) :: (32, .vec (b_1).length 3 ((b_1).flatMap e47)) :: (31, .bool true) :: E6)) (H' := (mkH [⟨[.vec (b_1).length 3 ((b_1).flatMap e47)], 0, false⟩, ⟨[.int .i64 b_2, .str b_3, .int .i64 b_4], 3, false⟩])) (by kernel_rfl) ?_
     refine oH (fun (x0_31 : S46) => (.vptr [.int .i64 x0_31.f0, .str x0_31.f1, .int .i64 x0_31.f2], (mkH [⟨[.vec (b_1).length 3 ((b_1).flatMap e47)], 0, false⟩, ⟨[.int .i64 b_2, .str b_3, .int .i64 b_4], 3, false⟩]))) (atN 32 (ctl1 g39f50_0p1)) (fun x0_31 => ((35, .vptr [.int .i64 x0_31.f0, .str x0_31.f1, .int .i64 x0_31.f2]) :: (34, .int .i64 (fW .i64 (a_0 + 1))) :: (33, .int .i64 a_0) :: (32, .vec (b_1).length 3 ((b_1).flatMap e47)) :: (31, .bool true) :: E6)) (vidxH (sz := 3) e47_len (by kernel_rfl)) (fun _ => by kernel_rfl) (fun x0_31 hx0_31 => ?_)
     let E7 : Env := ((40, .bool (decide (x0_31.f0 = 9))) :: (39, .bool (decide (x0_31.f0 = 9))) :: (38, .bool (decide (x0_31.f0 = 9))) :: (37, .int .i64 x0_31.f0) :: (36, .vptr [.int .i64 x0_31.f0, .str x0_31.f1, .int .i64 x0_31.f2]) :: (35, .vptr [.int .i64 x0_31.f0, .str x0_31.f1, .int .i64 x0_31.f2]) :: (34, .int .i64 (fW .i64 (a_0 + 1))) :: (33, .int .i64 a_0) :: (32, .vec (b_1).length 3 ((b_1).flatMap e47)) :: (31, .bool true) :: E6)
     refine oR 5 (p' := (atN 37 (ctl1 g39f50_0p1))) (eE := E7) (H' := (mkH [⟨[.vec (b_1).length 3 ((b_1).flatMap e47)], 0, false⟩, ⟨[.int .i64 b_2, .str b_3, .int .i64 b_4], 3, false⟩])) (by kernel_rfl) ?_
     refine oS 40 (b := decide (x0_31.f0 = 9)) (by kernel_rfl) (fun hb => ?_) (fun hb => ?_)
     ·refine oR 3 (p' := (atN 40 (ctl1 g39f50_0p1))) (eE := ((43, .int .i64 (fW .i64 (a_0 + 1))) :: (42, .int .i64 a_0) :: (41, .vec (b_1).length 3 ((b_1).flatMap e47)) :: (40, .bool true) :: E7)) (H' := (mkH [⟨[.vec (b_1).length 3 ((b_1).flatMap e47)], 0, false⟩, ⟨[.int .i64 b_2, .str b_3, .int .i64 b_4], 3, false⟩])) (by kernel_rfl) ?_
      refine oH (fun (x0_40 : S46) => (.vptr [.int .i64 x0_40.f0, .str x0_40.f1, .int .i64 x0_40.f2], (mkH [⟨[.vec (b_1).length 3 ((b_1).flatMap e47)], 0, false⟩, ⟨[.int .i64 b_2, .str b_3, .int .i64 b_4], 3, false⟩]))) (atN 41 (ctl1 g39f50_0p1)) (fun x0_40 => ((44, .vptr [.int .i64 x0_40.f0, .str x0_40.f1, .int .i64 x0_40.f2]) :: (43, .int .i64 (fW .i64 (a_0 + 1))) :: (42, .int .i64 a_0) :: (41, .vec (b_1).length 3 ((b_1).flatMap e47)) :: (40, .bool true) :: E7)) (vidxH (sz := 3) e47_len (by kernel_rfl)) (fun _ => by kernel_rfl) (fun x0_40 hx0_40 => ?_)
      let E8 : Env := ((3, .bool (eqL x0_40.f1 [40])) :: (49, .bool (eqL x0_40.f1 [40])) :: (48, .bool (eqL x0_40.f1 [40])) :: (47, .bool (eqL x0_40.f1 [40])) :: (46, .str x0_40.f1) :: (45, .vptr [.str x0_40.f1, .int .i64 x0_40.f2]) :: (44, .vptr [.int .i64 x0_40.f0, .str x0_40.f1, .int .i64 x0_40.f2]) :: (43, .int .i64 (fW .i64 (a_0 + 1))) :: (42, .int .i64 a_0) :: (41, .vec (b_1).length 3 ((b_1).flatMap e47)) :: (40, .bool true) :: E7)
      refine oR 8 (p' := .fin) (eE := E8) (H' := (mkH [⟨[.vec (b_1).length 3 ((b_1).flatMap e47)], 0, false⟩, ⟨[.int .i64 b_2, .str b_3, .int .i64 b_4], 3, false⟩])) (by kernel_rfl) ?_
      refine oK [3] (eE := [(3, .bool (eqL x0_40.f1 [40]))]) (by kernel_rfl) ?_
      exact ok_retM (r := (eqL x0_40.f1 [40])) (xs := [.bool (eqL x0_40.f1 [40])]) (by kernel_rfl) (by kernel_rfl) (by kernel_rfl) (by kernel_rfl)
     ·let E9 : Env := ((3, .bool false) :: (49, .bool false) :: (48, .bool false) :: (47, .tuple []) :: (46, .tuple []) :: (45, .tuple []) :: (44, .tuple []) :: (43, .tuple []) :: (42, .tuple []) :: (41, .tuple []) :: (40, .bool false) :: E7)
      refine oR 12 (p' := .fin) (eE := E9) (H' := (mkH [⟨[.vec (b_1).length 3 ((b_1).flatMap e47)], 0, false⟩, ⟨[.int .i64 b_2, .str b_3, .int .i64 b_4], 3, false⟩])) (by kernel_rfl) ?_
      refine oK [3] (eE := [(3, .bool false)]) (by kernel_rfl) ?_
      exact ok_retM (r := false) (xs := [.bool false]) (by kernel_rfl) (by kernel_rfl) (by kernel_rfl) (by kernel_rfl)
    ·let E10 : Env := ((3, .bool false) :: (49, .bool false) :: (48, .bool false) :: (47, .tuple []) :: (46, .tuple []) :: (45, .tuple []) :: (44, .tuple []) :: (43, .tuple []) :: (42, .tuple []) :: (41, .tuple []) :: (40, .bool false) :: (39, .bool false) :: (38, .tuple []) :: (37, .tuple []) :: (36, .tuple []) :: (35, .tuple []) :: (34, .tuple []) :: (33, .tuple []) :: (32, .tuple []) :: (31, .bool false) :: E6)
     refine oR 21 (p' := .fin) (eE := E10) (H' := (mkH [⟨[.vec (b_1).length 3 ((b_1).flatMap e47)], 0, false⟩, ⟨[.int .i64 b_2, .str b_3, .int .i64 b_4], 3, false⟩])) (by kernel_rfl) ?_
     refine oK [3] (eE := [(3, .bool false)]) (by kernel_rfl) ?_
     exact ok_retM (r := false) (xs := [.bool false]) (by kernel_rfl) (by kernel_rfl) (by kernel_rfl) (by kernel_rfl)
   ·let E11 : Env := ((3, .bool false) :: (49, .bool false) :: (48, .bool false) :: (47, .tuple []) :: (46, .tuple []) :: (45, .tuple []) :: (44, .tuple []) :: (43, .tuple []) :: (42, .tuple []) :: (41, .tuple []) :: (40, .bool false) :: (39, .bool false) :: (38, .tuple []) :: (37, .tuple []) :: (36, .tuple []) :: (35, .tuple []) :: (34, .tuple []) :: (33, .tuple []) :: (32, .tuple []) :: (31, .bool false) :: (30, .bool false) :: (29, .tuple []) :: (28, .tuple []) :: (27, .tuple []) :: (26, .tuple []) :: (25, .tuple []) :: (24, .bool false) :: E5)
    refine oR 28 (p' := .fin) (eE := E11) (H' := (mkH [⟨[.vec (b_1).length 3 ((b_1).flatMap e47)], 0, false⟩, ⟨[.int .i64 b_2, .str b_3, .int .i64 b_4], 3, false⟩])) (by kernel_rfl) ?_
    refine oK [3] (eE := [(3, .bool false)]) (by kernel_rfl) ?_
    exact ok_retM (r := false) (xs := [.bool false]) (by kernel_rfl) (by kernel_rfl) (by kernel_rfl) (by kernel_rfl)
  ·let E12 : Env := ((3, .bool false) :: (49, .bool false) :: (48, .bool false) :: (47, .tuple []) :: (46, .tuple []) :: (45, .tuple []) :: (44, .tuple []) :: (43, .tuple []) :: (42, .tuple []) :: (41, .tuple []) :: (40, .bool false) :: (39, .bool false) :: (38, .tuple []) :: (37, .tuple []) :: (36, .tuple []) :: (35, .tuple []) :: (34, .tuple []) :: (33, .tuple []) :: (32, .tuple []) :: (31, .bool false) :: (30, .bool false) :: (29, .tuple []) :: (28, .tuple []) :: (27, .tuple []) :: (26, .tuple []) :: (25, .tuple []) :: (24, .bool false) :: (23, .bool false) :: (22, .tuple []) :: (21, .tuple []) :: (20, .tuple []) :: (19, .tuple []) :: (18, .tuple []) :: (17, .tuple []) :: (16, .bool false) :: E4)
   refine oR 36 (p' := .fin) (eE := E12) (H' := (mkH [⟨[.vec (b_1).length 3 ((b_1).flatMap e47)], 0, false⟩, ⟨[.int .i64 b_2, .str b_3, .int .i64 b_4], 3, false⟩])) (by kernel_rfl) ?_
   refine oK [3] (eE := [(3, .bool false)]) (by kernel_rfl) ?_
   exact ok_retM (r := false) (xs := [.bool false]) (by kernel_rfl) (by kernel_rfl) (by kernel_rfl) (by kernel_rfl)
def g39p0 : Pt := nav [0] (bodyAt Try.f39)
def g39p1 : Pt := nav [0, 0, 0] g39p0
def g39p2 : Pt := nav [0, 0, 0] g39p1
def g39p3 : Pt := nav [0, 0, 0, 0] g39p2
def g39p4 : Pt := nav [0, 0, 0, 0] g39p3
def g39p5 : Pt := nav [0, 0] g39p4
def g39p6 : Pt := nav [0, 0, 0] g39p5
def g39p7 : Pt := nav [1, 0, 0, 0, 0] g39p6
def g39p9 : Pt := nav [0, 0, 0, 0, 0] g39p7
def g39p11 : Pt := nav [0, 0] g39p9
def g39p12 : Pt := nav [1] g39p11
def g39p13 : Pt := nav [2, 0] g39p11
def g39p14 : Pt := nav [0, 0] g39p12
def g39p15 : Pt := nav [0, 0] g39p13
def g39_l3 (k : Nat)  (a0 : (List S46)) (n : Nat) : Int → Int → Int → Option Int :=
 Nat.rec (motive := fun _ => Int → Int → Int → Option Int) (fun _ _ _ => none) (fun _ ih => fun (y3_0 : Int) (y3_1 : Int) (y3_2 : Int) => if (decide (y3_2 < (a0.length : Int))) then ((nthL a0 y3_2).bind fun x0_1 => (g39f50_0 k y3_2 a0 x0_1.f0 x0_1.f1 x0_1.f2).bind fun x1_2 => jn (fun (z4 : Int × Int × Int) => ih z4.1 (maxI z4.2.1 z4.1) (fW .i64 (z4.2.2 + 1))) (fun j4 => if x1_2 then (j4 (fW .i64 (y3_0 + 1), y3_1, y3_2)) else ((g52 k (⟨x0_1.f0, x0_1.f1, x0_1.f2⟩ : S46)).bind fun x2_1 => if x2_1 then (j4 (maxI (fW .i64 (y3_0 - 1)) 0, y3_1, y3_2)) else (j4 (y3_0, y3_1, y3_2))))) else (some y3_1)) n
theorem g39_l3_s (k : Nat)  (a0 : (List S46)) (n : Nat) (y3_0 : Int) (y3_1 : Int) (y3_2 : Int) : g39_l3 k a0 (n + 1) y3_0 y3_1 y3_2 = (if (decide (y3_2 < (a0.length : Int))) then ((nthL a0 y3_2).bind fun x0_1 => (g39f50_0 k y3_2 a0 x0_1.f0 x0_1.f1 x0_1.f2).bind fun x1_2 => jn (fun (z4 : Int × Int × Int) => (g39_l3 k a0 n) z4.1 (maxI z4.2.1 z4.1) (fW .i64 (z4.2.2 + 1))) (fun j4 => if x1_2 then (j4 (fW .i64 (y3_0 + 1), y3_1, y3_2)) else ((g52 k (⟨x0_1.f0, x0_1.f1, x0_1.f2⟩ : S46)).bind fun x2_1 => if x2_1 then (j4 (maxI (fW .i64 (y3_0 - 1)) 0, y3_1, y3_2)) else (j4 (y3_0, y3_1, y3_2))))) else (some y3_1)) := rfl
theorem g39_l3_ok (k : Nat)  (a0 : (List S46))  : ∀ (n : Nat) (y3_0 : Int) (y3_1 : Int) (y3_2 : Int), Ok X39 g39p4 [(3, .int .i64 y3_0), (4, .int .i64 y3_1), (5, .func 50 [] [.ptr 0 1 0]), (9, .vec (a0).length 3 ((a0).flatMap e47)), (10, .int .i64 (a0.length : Int)), (11, .int .i64 y3_2)] (mkH [⟨[.vec (a0).length 3 ((a0).flatMap e47)], 0, false⟩]) (g39_l3 k a0 n y3_0 y3_1 y3_2)
 | 0, _, _, _ => ok_none
 | n + 1, y3_0, y3_1, y3_2 => by
  have ih := g39_l3_ok k a0 n
  rw [g39_l3_s]
  refine ok_ent (p' := nav [0] g39p4) (by kernel_rfl) ?_
  let E2 : Env := [(12, .bool (decide (y3_2 < (a0.length : Int)))), (3, .int .i64 y3_0), (4, .int .i64 y3_1), (5, .func 50 [] [.ptr 0 1 0]), (9, .vec (a0).length 3 ((a0).flatMap e47)), (10, .int .i64 (a0.length : Int)), (11, .int .i64 y3_2)]
  refine oR 5 (p' := g39p6) (eE := E2) (H' := (mkH [⟨[.vec (a0).length 3 ((a0).flatMap e47)], 0, false⟩])) (by kernel_rfl) ?_
  refine oS 12 (b := decide (y3_2 < (a0.length : Int))) (by kernel_rfl) (fun hb => ?_) (fun hb => ?_)
  ·refine oR 7 (p' := (atN 1 (ctl1 g39p7))) (eE := ((13, .int .i64 y3_2) :: (12, .bool true) :: E2)) (H' := (mkH [⟨[.vec (a0).length 3 ((a0).flatMap e47)], 0, false⟩])) (by kernel_rfl) ?_
   refine oH (fun (x0_1 : S46) => (.vptr [.int .i64 x0_1.f0, .str x0_1.f1, .int .i64 x0_1.f2], (mkH [⟨[.vec (a0).length 3 ((a0).flatMap e47)], 0, false⟩]))) (atN 2 (ctl1 g39p7)) (fun x0_1 => ((14, .vptr [.int .i64 x0_1.f0, .str x0_1.f1, .int .i64 x0_1.f2]) :: (13, .int .i64 y3_2) :: (12, .bool true) :: E2)) (vidxH (sz := 3) e47_len (by kernel_rfl)) (fun _ => by kernel_rfl) (fun x0_1 hx0_1 => ?_)
   let E3 : Env := ((18, .int .i64 y3_2) :: (17, .func 50 [] [.ptr 0 1 0]) :: (6, .int .i64 y3_2) :: (7, .ptr 1 3 0) :: (15, .agg [.int .i64 x0_1.f0, .str x0_1.f1, .int .i64 x0_1.f2]) :: (14, .vptr [.int .i64 x0_1.f0, .str x0_1.f1, .int .i64 x0_1.f2]) :: (13, .int .i64 y3_2) :: (12, .bool true) :: E2)
   refine oR 11 (p' := (atN 2 (ctl1 g39p9))) (eE := E3) (H' := (mkH [⟨[.vec (a0).length 3 ((a0).flatMap e47)], 0, false⟩, ⟨[.int .i64 x0_1.f0, .str x0_1.f1, .int .i64 x0_1.f2], 3, false⟩])) (by kernel_rfl) ?_
   refine ok_callM (fun (x1_2 : Bool) => .bool x1_2) (fun (x1_2 : Bool) => (mkH [⟨[.vec (a0).length 3 ((a0).flatMap e47)], 0, false⟩, ⟨[.int .i64 x0_1.f0, .str x0_1.f1, .int .i64 x0_1.f2], 3, false⟩])) (atN 3 (ctl1 g39p9)) (fun x1_2 => ((19, .bool x1_2) :: E3)) (fi := 50) (args := [.int .i64 y3_2, .ptr 0 1 0]) (by kernel_rfl) (fun r h => g39f50_0_ok k y3_2 a0 x0_1.f0 x0_1.f1 x0_1.f2 r h) (fun _ => by kernel_rfl) (fun x1_2 hx1_2 => ?_)
   refine oR 2 (p' := g39p11) (eE := ((16, .bool x1_2) :: (19, .bool x1_2) :: E3)) (H' := (mkH [⟨[.vec (a0).length 3 ((a0).flatMap e47)], 0, false⟩, ⟨[.int .i64 x0_1.f0, .str x0_1.f1, .int .i64 x0_1.f2], 3, false⟩])) (by kernel_rfl) ?_
   refine oK [3, 4, 5, 7, 9, 10, 11, 16] (eE := [(3, .int .i64 y3_0), (4, .int .i64 y3_1), (5, .func 50 [] [.ptr 0 1 0]), (7, .ptr 1 3 0), (9, .vec (a0).length 3 ((a0).flatMap e47)), (10, .int .i64 (a0.length : Int)), (11, .int .i64 y3_2), (16, .bool x1_2)]) (by kernel_rfl) ?_
   refine oJ (f := fun (z4 : Int × Int × Int) => (g39_l3 k a0 n) z4.1 (maxI z4.2.1 z4.1) (fW .i64 (z4.2.2 + 1))) g39p14 (fun (z4 : Int × Int × Int) => [(3, .int .i64 z4.1), (4, .int .i64 z4.2.1), (5, .func 50 [] [.ptr 0 1 0]), (9, .vec (a0).length 3 ((a0).flatMap e47)), (10, .int .i64 (a0.length : Int)), (11, .int .i64 z4.2.2)]) (fun (z4 : Int × Int × Int) => (mkH [⟨[.vec (a0).length 3 ((a0).flatMap e47)], 0, false⟩])) (fun z4 => ?_) (fun j4 hj4 => ?_)
   ·let E4 : Env := [(11, .int .i64 (fW .i64 (z4.2.2 + 1))), (31, .int .i64 (fW .i64 (z4.2.2 + 1))), (4, .int .i64 (maxI z4.2.1 z4.1)), (30, .int .i64 (maxI z4.2.1 z4.1)), (29, .int .i64 z4.1), (28, .int .i64 z4.2.1), (3, .int .i64 z4.1), (4, .int .i64 z4.2.1), (5, .func 50 [] [.ptr 0 1 0]), (9, .vec (a0).length 3 ((a0).flatMap e47)), (10, .int .i64 (a0.length : Int)), (11, .int .i64 z4.2.2)]
    refine oR 10 (p' := g39p4) (eE := E4) (H' := (mkH [⟨[.vec (a0).length 3 ((a0).flatMap e47)], 0, false⟩])) (by kernel_rfl) ?_
    refine oK [3, 4, 5, 9, 10, 11] (eE := [(3, .int .i64 z4.1), (4, .int .i64 (maxI z4.2.1 z4.1)), (5, .func 50 [] [.ptr 0 1 0]), (9, .vec (a0).length 3 ((a0).flatMap e47)), (10, .int .i64 (a0.length : Int)), (11, .int .i64 (fW .i64 (z4.2.2 + 1)))]) (by kernel_rfl) ?_
    exact ih z4.1 (maxI z4.2.1 z4.1) (fW .i64 (z4.2.2 + 1))
   ·refine oS 16 (b := x1_2) (by kernel_rfl) (fun hb => ?_) (fun hb => ?_)
    ·let E5 : Env := [(3, .int .i64 (fW .i64 (y3_0 + 1))), (21, .int .i64 (fW .i64 (y3_0 + 1))), (20, .int .i64 y3_0), (16, .bool true), (3, .int .i64 y3_0), (4, .int .i64 y3_1), (5, .func 50 [] [.ptr 0 1 0]), (7, .ptr 1 3 0), (9, .vec (a0).length 3 ((a0).flatMap e47)), (10, .int .i64 (a0.length : Int)), (11, .int .i64 y3_2), (16, .bool x1_2)]
     refine oR 6 (p' := g39p14) (eE := E5) (H' := (mkH [⟨[.vec (a0).length 3 ((a0).flatMap e47)], 0, false⟩, ⟨[.int .i64 x0_1.f0, .str x0_1.f1, .int .i64 x0_1.f2], 3, false⟩])) (by kernel_rfl) ?_
     refine oK [3, 4, 5, 9, 10, 11] (eE := [(3, .int .i64 (fW .i64 (y3_0 + 1))), (4, .int .i64 y3_1), (5, .func 50 [] [.ptr 0 1 0]), (9, .vec (a0).length 3 ((a0).flatMap e47)), (10, .int .i64 (a0.length : Int)), (11, .int .i64 y3_2)]) (by kernel_rfl) ?_
     refine ok_cut [⟨[.vec (a0).length 3 ((a0).flatMap e47)], 0, false⟩] [⟨[.int .i64 x0_1.f0, .str x0_1.f1, .int .i64 x0_1.f2], 3, false⟩] (by kernel_rfl) rfl (by kernel_rfl) ⟨(by kernel_rfl), trivial⟩ ?_
     exact hj4 (fW .i64 (y3_0 + 1), y3_1, y3_2)
    ·let E6 : Env := [(23, .agg [.int .i64 x0_1.f0, .str x0_1.f1, .int .i64 x0_1.f2]), (16, .bool false), (3, .int .i64 y3_0), (4, .int .i64 y3_1), (5, .func 50 [] [.ptr 0 1 0]), (7, .ptr 1 3 0), (9, .vec (a0).length 3 ((a0).flatMap e47)), (10, .int .i64 (a0.length : Int)), (11, .int .i64 y3_2), (16, .bool x1_2)]
     refine oR 4 (p' := (atN 1 (ctl1 g39p13))) (eE := E6) (H' := (mkH [⟨[.vec (a0).length 3 ((a0).flatMap e47)], 0, false⟩, ⟨[.int .i64 x0_1.f0, .str x0_1.f1, .int .i64 x0_1.f2], 3, false⟩])) (by kernel_rfl) ?_
     refine oC (fun (x2_1 : Bool) => .bool x2_1) (atN 2 (ctl1 g39p13)) (fun x2_1 => ((24, .bool x2_1) :: E6)) (fi := 52) (args := [.agg [.int .i64 x0_1.f0, .str x0_1.f1, .int .i64 x0_1.f2]]) (by kernel_rfl) (by kernel_rfl) (fun _ => by kernel_rfl) (fun r h => g52_ok k (⟨x0_1.f0, x0_1.f1, x0_1.f2⟩ : S46) r h) (fun _ => by kernel_rfl) (fun x2_1 hx2_1 => ?_)
     refine oR 2 (p' := g39p15) (eE := ((22, .bool x2_1) :: (24, .bool x2_1) :: E6)) (H' := (mkH [⟨[.vec (a0).length 3 ((a0).flatMap e47)], 0, false⟩, ⟨[.int .i64 x0_1.f0, .str x0_1.f1, .int .i64 x0_1.f2], 3, false⟩])) (by kernel_rfl) ?_
     refine oS 22 (b := x2_1) (by kernel_rfl) (fun hb => ?_) (fun hb => ?_)
     ·let E7 : Env := ((3, .int .i64 (maxI (fW .i64 (y3_0 - 1)) 0)) :: (27, .int .i64 (maxI (fW .i64 (y3_0 - 1)) 0)) :: (26, .int .i64 (fW .i64 (y3_0 - 1))) :: (25, .int .i64 y3_0) :: (22, .bool true) :: (22, .bool x2_1) :: (24, .bool x2_1) :: E6)
      refine oR 7 (p' := g39p14) (eE := E7) (H' := (mkH [⟨[.vec (a0).length 3 ((a0).flatMap e47)], 0, false⟩, ⟨[.int .i64 x0_1.f0, .str x0_1.f1, .int .i64 x0_1.f2], 3, false⟩])) (by kernel_rfl) ?_
      refine oK [3, 4, 5, 9, 10, 11] (eE := [(3, .int .i64 (maxI (fW .i64 (y3_0 - 1)) 0)), (4, .int .i64 y3_1), (5, .func 50 [] [.ptr 0 1 0]), (9, .vec (a0).length 3 ((a0).flatMap e47)), (10, .int .i64 (a0.length : Int)), (11, .int .i64 y3_2)]) (by kernel_rfl) ?_
      refine ok_cut [⟨[.vec (a0).length 3 ((a0).flatMap e47)], 0, false⟩] [⟨[.int .i64 x0_1.f0, .str x0_1.f1, .int .i64 x0_1.f2], 3, false⟩] (by kernel_rfl) rfl (by kernel_rfl) ⟨(by kernel_rfl), trivial⟩ ?_
      exact hj4 (maxI (fW .i64 (y3_0 - 1)) 0, y3_1, y3_2)
     ·refine oR 2 (p' := g39p14) (eE := ((22, .bool false) :: (22, .bool x2_1) :: (24, .bool x2_1) :: E6)) (H' := (mkH [⟨[.vec (a0).length 3 ((a0).flatMap e47)], 0, false⟩, ⟨[.int .i64 x0_1.f0, .str x0_1.f1, .int .i64 x0_1.f2], 3, false⟩])) (by kernel_rfl) ?_
      refine oK [3, 4, 5, 9, 10, 11] (eE := [(3, .int .i64 y3_0), (4, .int .i64 y3_1), (5, .func 50 [] [.ptr 0 1 0]), (9, .vec (a0).length 3 ((a0).flatMap e47)), (10, .int .i64 (a0.length : Int)), (11, .int .i64 y3_2)]) (by kernel_rfl) ?_
      refine ok_cut [⟨[.vec (a0).length 3 ((a0).flatMap e47)], 0, false⟩] [⟨[.int .i64 x0_1.f0, .str x0_1.f1, .int .i64 x0_1.f2], 3, false⟩] (by kernel_rfl) rfl (by kernel_rfl) ⟨(by kernel_rfl), trivial⟩ ?_
      exact hj4 (y3_0, y3_1, y3_2)
  ·refine oR 8 (p' := .fin) (eE := ((2, .int .i64 y3_1) :: (32, .int .i64 y3_1) :: (12, .bool false) :: E2)) (H' := (mkH [⟨[.vec (a0).length 3 ((a0).flatMap e47)], 0, false⟩])) (by kernel_rfl) ?_
   exact oT (r := y3_1) (xs := [.int .i64 y3_1]) (v := .int .i64 y3_1) (by kernel_rfl) (by kernel_rfl) (by kernel_rfl) (.pures (by kernel_rfl)) (by kernel_rfl)
def g39 (k : Nat) (a0 : (List S46)) : Option Int :=
 g39_l3 k a0 k 0 0 0
theorem g39_ok (k : Nat) (a0 : (List S46)) (r : Int) (h : g39 k a0 = some r) : PureOk Try.prog 39 [.vec (a0).length 3 ((a0).flatMap e47)] (.int .i64 r) := by
 refine pure_of X39 (fun _ => rfl) Try.func39 (by decide +kernel) (by kernel_rfl) (t := g39 k a0) ?_ h
 unfold g39
 refine oE (eE := [(0, .vec (a0).length 3 ((a0).flatMap e47))]) (by kernel_rfl) ?_
 let E1 : Env := [(11, .int .i64 0), (10, .int .i64 (a0.length : Int)), (9, .vec (a0).length 3 ((a0).flatMap e47)), (5, .func 50 [] [.ptr 0 1 0]), (8, .func 50 [] [.ptr 0 1 0]), (4, .int .i64 0), (3, .int .i64 0), (2, .int .i64 0), (1, .ptr 0 1 0), (0, .vec (a0).length 3 ((a0).flatMap e47))]
 refine oR 24 (p' := g39p4) (eE := E1) (H' := (mkH [⟨[.vec (a0).length 3 ((a0).flatMap e47)], 0, false⟩])) (by kernel_rfl) ?_
 refine oK [3, 4, 5, 9, 10, 11] (eE := [(3, .int .i64 0), (4, .int .i64 0), (5, .func 50 [] [.ptr 0 1 0]), (9, .vec (a0).length 3 ((a0).flatMap e47)), (10, .int .i64 (a0.length : Int)), (11, .int .i64 0)]) (by kernel_rfl) ?_
 exact (g39_l3_ok k a0 k) 0 0 0
end
end Go.Proofs.Ytbmijiibfaacmaa.Am
set_option maxRecDepth 100000
set_option linter.unusedVariables false
set_option linter.unusedSimpArgs false
namespace Go.Proofs.Ytbmijiibfaacmaa.Am
noncomputable section
open Go
abbrev Tx := Nat × List Nat
def Sx : List Nat → List Tx → Prop
 | s, [] => s.length ≤ skipN s
 | s, t :: K => ∃ r, s.drop (skipN s) = t.2 ++ r ∧ oneN (t.2 ++ r) = (t.2.length, t.1) ∧ t.2 ≠ [] ∧ Sx r K
theorem sx_toks : ∀ (K : List Tx) (s : List Nat) (a : Nat), a ≤ s.length → Sx (s.drop a) K → ∃ l, Toks s a l ∧ l.map (fun x => ((x.1, (s.drop x.2.1).take x.2.2) : Tx)) = K
 | [], s, a, ha, h => by
  refine ⟨[], ?_, rfl⟩
  simp only [Sx, List.length_drop] at h
  simp only [Toks]; omega
 | t :: K, s, a, ha, h => by
  obtain ⟨r, h1, h2, h3, h4⟩ := h
  rw [List.drop_drop] at h1
  have hl : 0 < t.2.length := List.length_pos_iff.2 h3
  have hd := congrArg List.length h1
  rw [List.length_drop, List.length_append] at hd
  have hr : s.drop (a + skipN (s.drop a) + t.2.length) = r := by rw [← List.drop_drop, h1, List.drop_left]
  obtain ⟨l, hl1, hl2⟩ := sx_toks K s (a + skipN (s.drop a) + t.2.length) (by omega) (by rw [hr]; exact h4)
  refine ⟨(t.1, a + skipN (s.drop a), t.2.length) :: l, ?_, ?_⟩
  ·have q1 : a + skipN (s.drop a) < s.length := by omega
   have q2 : oneN (s.drop (a + skipN (s.drop a))) = (t.2.length, t.1) := by rw [h1]; exact h2
   have q3 : t.2.length ≠ 0 := by omega
   unfold Toks
   exact ⟨rfl, q1, q2, q3, hl1⟩
  ·rw [List.map_cons, hl2]
   show (t.1, (s.drop (a + skipN (s.drop a))).take t.2.length) :: K = t :: K
   rw [h1, List.take_left]
theorem sx_tok {c : Nat} {u r : List Nat} {k : Nat} {K : List Tx} (hb : blkN c = false) (h : oneN (c :: u ++ r) = ((c :: u).length, k)) (hK : Sx r K) : Sx (c :: u ++ r) ((k, c :: u) :: K) := by
 refine ⟨r, ?_, h, by simp, hK⟩
 rw [skip_step (s := c :: u ++ r) rfl hb]; rfl
theorem sx_blk {c : Nat} {r : List Nat} : ∀ {K : List Tx}, blkN c = true → Sx r K → Sx (c :: r) K
 | [], hb, h => by
  simp only [Sx, List.length_cons, skipN, if_pos hb] at h ⊢; omega
 | t :: K, hb, h => by
  obtain ⟨q, h1, h2⟩ := h
  refine ⟨q, ?_, h2⟩
  simp only [skipN, if_pos hb, List.drop_succ_cons]; exact h1
theorem V_asc : ∀ {s : List Nat}, (∀ c ∈ s, c < 128) → V s = true
 | [], h => rfl
 | c :: r, h => by
  rw [V_ascii r (h c List.mem_cons_self)]
  exact V_asc (fun b hb => h b (List.mem_cons_of_mem _ hb))
def opT (t : Tx) : Bool := match g51 0 (⟨(t.1 : Int), t.2, 0⟩ : S46) with | some b => b | none => false
def clT (t : Tx) : Bool := match g52 0 (⟨(t.1 : Int), t.2, 0⟩ : S46) with | some b => b | none => false
def fuT (t : Tx) : List Tx → Bool
 | [] => false
 | u :: _ => if t.1 = 8 then (if eqL t.2 [102, 117, 110] then (if u.1 = 9 then eqL u.2 [40] else false) else false) else false
def dN : List Tx → Nat → Nat → Nat
 | [], _, m => m
 | t :: K, n, m => if (if opT t then true else fuT t K) then dN K (n + 1) (max m (n + 1)) else if clT t then dN K (n - 1) (max m (n - 1)) else dN K n (max m n)
def tkL : List Tx := [(9, [40]), (9, [123]), (9, [91]), (9, [60, 60]), (8, [98, 101, 103, 105, 110]), (8, [99, 97, 115, 101]), (8, [105, 102]), (8, [114, 101, 99, 101, 105, 118, 101]), (8, [102, 117, 110]), (9, [41]), (9, [125]), (9, [93]), (9, [62, 62]), (8, [101, 110, 100]), (1, [120])]
theorem op_at (k : Nat) {t : Tx} (h : t ∈ tkL) (p : Int) : g51 k (⟨(t.1 : Int), t.2, p⟩ : S46) = some (opT t) := by
 simp only [tkL, List.mem_cons, List.not_mem_nil, or_false] at h
 rcases h with rfl | rfl | rfl | rfl | rfl | rfl | rfl | rfl | rfl | rfl | rfl | rfl | rfl | rfl | rfl <;> kernel_rfl
theorem cl_at (k : Nat) {t : Tx} (h : t ∈ tkL) (p : Int) : g52 k (⟨(t.1 : Int), t.2, p⟩ : S46) = some (clT t) := by
 simp only [tkL, List.mem_cons, List.not_mem_nil, or_false] at h
 rcases h with rfl | rfl | rfl | rfl | rfl | rfl | rfl | rfl | rfl | rfl | rfl | rfl | rfl | rfl | rfl <;> kernel_rfl
def tx (a : S46) (t : Tx) : Prop := a.f0 = (t.1 : Int) ∧ a.f1 = t.2
def Ms : List S46 → List Tx → Prop
 | [], [] => True
 | a :: L, t :: K => tx a t ∧ Ms L K
 | _, _ => False
theorem fun_at (k : Nat) {L : List S46} (hL : L.length ≤ 100000) {i : Nat} {a : S46} {t : Tx} {L' : List S46} {K : List Tx} (hd : L.drop i = a :: L') (ha : tx a t) (ht : t ∈ tkL) (hm : Ms L' K) (b2 : Int) (b3 : List Nat) (b4 : Int) : g39f50_0 k (i : Int) L b2 b3 b4 = some (if opT t then true else fuT t K) := by
 have hn : nthL L (i : Int) = some a := nthL_at hd
 obtain ⟨a1, a2, a3⟩ := a
 obtain ⟨e1, e2⟩ := ha
 simp only [] at e1 e2
 subst e1 e2
 have hln := congrArg List.length hd
 rw [List.length_drop, List.length_cons] at hln
 unfold g39f50_0
 refine bS (by (try simp (disch := omega) only [fwI]); exact hn) ?_
 refine bS (by (try simp (disch := omega) only [fwI]); exact op_at k ht a3) ?_
 by_cases ho : opT t = true
 ·refine iT ho ?_
  rw [if_pos ho]
 ·refine iF (Bool.eq_false_iff.2 ho) ?_
  rw [if_neg ho]
  refine bS (by (try simp (disch := omega) only [fwI]); exact hn) ?_
  by_cases h8 : t.1 = 8
  ·refine iT (dT (by show ((t.1 : Nat) : Int) = 8; omega)) ?_
   refine bS (by (try simp (disch := omega) only [fwI]); exact hn) ?_
   by_cases hf : eqL t.2 [102, 117, 110] = true
   ·refine iT hf ?_
    cases K with
    | nil =>
     cases L' with
     | cons _ _ => cases hm
     | nil =>
      simp only [List.length_nil] at hln
      refine iF (dF ?_) rfl
      rw [fw_s (by omega)]; omega
    | cons u K =>
     cases L' with
     | nil => cases hm
     | cons b L' =>
      simp only [List.length_cons] at hln
      obtain ⟨⟨u1, u2⟩, -⟩ := hm
      have hn2 : nthL L ((i + 1 : Nat) : Int) = some b := nthL_at (r := L') (by rw [← List.drop_drop, hd]; rfl)
      rw [fw_s (by omega)]
      refine iT (dT (by omega)) ?_
      refine bS (by (try simp (disch := omega) only [fwI]); exact hn2) ?_
      simp only [fuT]
      rw [if_pos h8, if_pos hf]
      by_cases h9 : u.1 = 9
      ·refine iT (dT (by omega)) ?_
       refine bS (by (try simp (disch := omega) only [fwI]); exact hn2) ?_
       rw [if_pos h9, u2]
      ·refine iF (dF (by omega)) ?_
       rw [if_neg h9]
   ·refine iF (Bool.eq_false_iff.2 hf) ?_
    cases K with
    | nil => rfl
    | cons u K => simp only [fuT]; rw [if_pos h8, if_neg hf]
  ·refine iF (dF (by show ¬ ((t.1 : Nat) : Int) = 8; omega)) ?_
   cases K with
   | nil => rfl
   | cons u K => simp only [fuT]; rw [if_neg h8]
theorem maxI_at (a b : Nat) : maxI (a : Int) (b : Int) = ((max a b : Nat) : Int) := by unfold maxI; split <;> omega
theorem deep_l (k : Nat) {L : List S46} (hL : L.length ≤ 100000) : ∀ (K : List Tx) (L' : List S46) (f i n m : Nat), L.drop i = L' → Ms L' K → (∀ t ∈ K, t ∈ tkL) → K.length < f → n ≤ i → m ≤ i →
 g39_l3 k L f (n : Int) (m : Int) (i : Int) = some ((dN K n m : Nat) : Int)
 | K, L', 0, i, n, m, hd, hm, ht, hf, hn, hmi => by omega
 | [], [], f + 1, i, n, m, hd, hm, ht, hf, hn, hmi => by
  have := List.drop_eq_nil_iff.1 hd
  rw [g39_l3_s]
  exact iF (dF (by omega)) rfl
 | [], _ :: _, f + 1, i, n, m, hd, hm, ht, hf, hn, hmi => by cases hm
 | _ :: _, [], f + 1, i, n, m, hd, hm, ht, hf, hn, hmi => by cases hm
 | t :: K, a :: L', f + 1, i, n, m, hd, hm, ht, hf, hn, hmi => by
  obtain ⟨ha, hm⟩ := hm
  have hln := congrArg List.length hd
  rw [List.length_drop, List.length_cons] at hln
  have hd2 : L.drop (i + 1) = L' := by rw [← List.drop_drop, hd]; rfl
  simp only [List.length_cons] at hf
  have tt := ht t List.mem_cons_self
  have ih := fun n' m' h1 h2 => deep_l k hL K L' f (i + 1) n' m' hd2 hm (fun u hu => ht u (List.mem_cons_of_mem _ hu)) (by omega) h1 h2
  have cl : g52 k (⟨a.f0, a.f1, a.f2⟩ : S46) = some (clT t) := by rw [ha.1, ha.2]; exact cl_at k tt a.f2
  rw [g39_l3_s]
  refine iT (dT (by omega)) ?_
  refine bS (by (try simp (disch := omega) only [fwI]); exact nthL_at hd) ?_
  refine bS (by (try simp (disch := omega) only [fwI]); exact fun_at k hL hd ha tt hm a.f0 a.f1 a.f2) ?_
  simp only [dN]
  by_cases ho : (if opT t = true then true else fuT t K) = true
  ·rw [if_pos ho]
   refine (jS (v := (((n + 1 : Nat) : Int), (m : Int), (i : Int))) (fun j => ?_)).trans ?_
   ·refine iT ho ?_
    rw [fw_s (by omega)]
   ·rw [fw_s (by omega), maxI_at]
    exact ih (n + 1) (max m (n + 1)) (by omega) (by omega)
  ·rw [if_neg ho]
   by_cases hc : clT t = true
   ·rw [if_pos hc]
    refine (jS (v := (((n - 1 : Nat) : Int), (m : Int), (i : Int))) (fun j => ?_)).trans ?_
    ·refine iF (Bool.eq_false_iff.2 ho) ?_
     refine bS (by (try simp (disch := omega) only [fwI]); exact cl) ?_
     refine iT hc ?_
     rw [show maxI (fW .i64 ((n : Int) - 1)) 0 = ((n - 1 : Nat) : Int) from by
      rw [fwI (by omega) (by omega)]; unfold maxI; split <;> omega]
    ·rw [fw_s (by omega), maxI_at]
     exact ih (n - 1) (max m (n - 1)) (by omega) (by omega)
   ·rw [if_neg hc]
    refine (jS (v := ((n : Int), (m : Int), (i : Int))) (fun j => ?_)).trans ?_
    ·refine iF (Bool.eq_false_iff.2 ho) ?_
     refine bS (by (try simp (disch := omega) only [fwI]); exact cl) ?_
     exact iF (Bool.eq_false_iff.2 hc) rfl
    ·rw [fw_s (by omega), maxI_at]
     exact ih n (max m n) (by omega) (by omega)
theorem ms_of (s : List Nat) : ∀ (l : List (Nat × Nat × Nat)), Ms (l.map (mkTok s)) (l.map (fun x => ((x.1, (s.drop x.2.1).take x.2.2) : Tx)))
 | [] => trivial
 | x :: l => ⟨⟨rfl, rfl⟩, ms_of s l⟩
theorem deep_of {k : Nat} {s : List Nat} (hk : s.length + 10 ≤ k) (hl : s.length ≤ 60000) (ha : ∀ c ∈ s, c < 128) {K : List Tx} (h : Sx s K) (ht : ∀ t ∈ K, t ∈ tkL) : (scanN s).2 = 0 ∧ g39 k (scanN s).1 = some ((dN K 0 0 : Nat) : Int) := by
 obtain ⟨l, h1, h2⟩ := sx_toks K s 0 (Nat.zero_le _) h
 rw [scan_some (by omega) (V_asc ha) h1]
 refine ⟨rfl, ?_⟩
 have cl : l.length ≤ s.length := toks_len s (s.length + 1) 0 l ((toks_iff s (s.length + 1) 0 l (by omega)).2 h1) (Nat.zero_le _)
 have hK : K.length = l.length := by rw [← h2, List.length_map]
 unfold g39
 refine deep_l k (by simp only [List.length_map]; omega) K _ k 0 0 0 rfl ?_ ht (by omega) (Nat.le_refl _) (Nat.le_refl _)
 rw [← h2]
 exact ms_of s l
end
end Go.Proofs.Ytbmijiibfaacmaa.Am
set_option maxRecDepth 100000
set_option linter.unusedVariables false
set_option linter.unusedSimpArgs false
namespace Go.Proofs.Ytbmijiibfaacmaa.Am
open Go
def macB (t : List Nat) : Bool := match t with | c :: _ => decide (begN c = 1 ∨ begN c = 2) | [] => false
theorem begN_le (c : Nat) : begN c ≤ 3 := by
 unfold begN; repeat' split
 all_goals omega
theorem trmN_take (t : List Nat) (n : Nat) : ∀ i, i ≤ n → trmN (t.take n) i = trmN t i
 | 0, _ => rfl
 | i + 1, h => by
  have ih := trmN_take t n i (by omega)
  simp only [trmN, ih]
  rcases Nat.lt_or_ge i t.length with hi | hi
  ·obtain ⟨c, r, hc, hr, hm, hrl⟩ := dcons hi
   rw [hc, List.drop_take, hc, show n - i = (n - i - 1) + 1 by omega, List.take_succ_cons]
  ·rw [dnil hi, dnil (by rw [List.length_take]; omega)]
theorem trmN_pos {c : Nat} {r : List Nat} (h : blkN c = false) : ∀ i, 1 ≤ i → 1 ≤ trmN (c :: r) i
 | 0, h1 => absurd h1 (by decide)
 | i + 1, _ => by
  simp only [trmN]
  cases i with
  | zero => simp only [List.drop_zero, h, Bool.false_eq_true, if_false]; exact Nat.le_refl _
  | succ i =>
   have := trmN_pos (r := r) h (i + 1) (by omega)
   split
   ·split <;> omega
   ·omega
theorem lineN_no10 : ∀ s : List Nat, 10 ∉ s.take (lineN s)
 | [], h => by simp at h
 | c :: r, h => by
  simp only [lineN] at h
  split at h
  ·simp at h
  ·rw [List.take_succ_cons] at h
   rcases List.mem_cons.1 h with e | e
   ·rename_i hc; exact hc e.symm
   ·exact lineN_no10 r e
theorem cmtN_pos (r : List Nat) : 1 ≤ cmtN (37 :: r) := by
 unfold cmtN
 exact trmN_pos (by decide) _ (by simp [lineN])
theorem rtrm_l (k : Nat) {u : List Nat} (hl : Sz u) (h10 : 10 ∉ u) : ∀ (i f : Nat), i < f → i ≤ u.length → g57_l2 k u f (i : Int) = some (u.take (trmN u i))
 | 0, f, hf, hi => by
  obtain ⟨f, rfl⟩ : ∃ f', f = f' + 1 := ⟨f - 1, by omega⟩
  rw [g57_l2_s]
  refine (jS (v := (false, (0 : Int))) (fun j => rfl)).trans ?_
  refine iF rfl ?_
  refine bS (by (try simp (disch := omega) only [fwI]); exact subTo (s := u) (x := (0 : Int)) (i := 0) rfl (Nat.zero_le _)) ?_
  rfl
 | i + 1, f, hf, hi => by
  have hl' := hl
  unfold Sz at hl
  obtain ⟨f, rfl⟩ : ∃ f', f = f' + 1 := ⟨f - 1, by omega⟩
  rw [g57_l2_s]
  obtain ⟨c, r, hc, hr, hm, hrl⟩ := dcons (s := u) (i := i) (by omega)
  have nc := nthX (x := (i : Int)) rfl hc
  have c10 : c ≠ 10 := fun h => h10 (h ▸ hm)
  have ih := rtrm_l k hl' h10 i f (by omega) (by omega)
  rw [fw_p (by omega)]
  refine (jS (v := (blkN c, ((i + 1 : Nat) : Int))) (fun j => ?_)).trans ?_
  ·refine iT (dT (by omega)) ?_
   refine bS (by (try simp (disch := omega) only [fwI]); exact nc) ?_
   unfold blkN
   rw [decide_eq_false c10]
   by_cases h1 : c = 32
   ·refine iT (dT (by omega)) ?_
    rw [decide_eq_true h1]; rfl
   refine iF (dF (by omega)) ?_
   refine bS (by (try simp (disch := omega) only [fwI]); exact nc) ?_
   rw [decide_eq_false h1]
   by_cases h2 : c = 9
   ·refine iT (dT (by omega)) ?_
    rw [decide_eq_true h2]; rfl
   refine iF (dF (by omega)) ?_
   refine bS (by (try simp (disch := omega) only [fwI]); exact nc) ?_
   rw [decide_eq_false h2]
   have : decide ((c : Int) = 13) = decide (c = 13) := by rw [Bool.eq_iff_iff]; simp; omega
   rw [this]; rfl
  ·simp only [trmN, hc]
   cases blkN c with
   | true =>
    refine iT rfl ?_
    show g57_l2 k u f (fW .i64 (((i + 1 : Nat) : Int) - 1)) = _
    rw [fw_p (by omega)]
    exact ih
   | false =>
    refine iF rfl ?_
    refine bS (by (try simp (disch := omega) only [fwI]); exact subTo (s := u) (x := ((i + 1 : Nat) : Int)) (i := i + 1) rfl hi) ?_
    rfl
theorem rtrm_at {k : Nat} {u : List Nat} (hk : u.length < k) (hl : Sz u) (h10 : 10 ∉ u) : g57 k u = some (u.take (trmN u u.length)) := rtrm_l k hl h10 u.length k hk (Nat.le_refl _)
theorem rnote_l {k : Nat} {s : List Nat} (hk : s.length < k) (hs : By s) (hl : Sz s) {a : Nat} {t : List Nat} (ha : s.drop a = 37 :: t) : ∀ (f i : Nat), s.length < i + f → i ≤ s.length → i + lineN (s.drop i) = a + lineN (s.drop a) → a ≤ i → g46_l18 k s (a : Int) f (i : Int) = some (mkTok s (11, a, cmtN (s.drop a)), 0)
 | 0, i, h, h2, h3, h4 => by omega
 | f + 1, i, h, h2, h3, h4 => by
  have hl' := hl
  unfold Sz at hl
  rw [g46_l18_s]
  have fin : i = a + lineN (s.drop a) → (subL s (some (a : Int)) (some (i : Int))).bind (fun x16_3 => (g57 k x16_3).bind fun x16_4 => some ((⟨(11 : Int), x16_4, (a : Int)⟩ : S46), (0 : Int))) = some (mkTok s (11, a, cmtN (s.drop a)), 0) := by
   intro hi
   have ll := lineN_le (s.drop a)
   rw [List.length_drop] at ll
   refine bS (by (try simp (disch := omega) only [fwI]); exact subMid (s := s) (i := a) (j := i) rfl rfl h4 h2) ?_
   rw [List.drop_take, show i - a = lineN (s.drop a) by omega]
   have ul : ((s.drop a).take (lineN (s.drop a))).length = lineN (s.drop a) := by rw [List.length_take, List.length_drop]; omega
   refine bS (by (try simp (disch := omega) only [fwI]); exact rtrm_at (k := k) (u := (s.drop a).take (lineN (s.drop a))) (by rw [ul]; omega) (by unfold Sz; rw [ul]; omega) (lineN_no10 _)) ?_
   rw [ul, trmN_take _ _ _ (Nat.le_refl _), List.take_take, Nat.min_eq_left (trmN_le _ _)]
   rfl
  rcases Nat.lt_or_ge i s.length with hi | hi
  ·obtain ⟨c, r, hc, hr, hm, hrl⟩ := dcons hi
   have nc := nthX (x := (i : Int)) rfl hc
   have h3' := h3
   rw [hc] at h3
   simp only [lineN] at h3
   refine (jS (v := (!decide (c = 10), (i : Int))) (fun j => ?_)).trans ?_
   ·refine iT (dT (by omega)) ?_
    refine bS (by (try simp (disch := omega) only [fwI]); exact nc) ?_
    congr 2
    rw [Bool.eq_iff_iff]; simp; omega
   ·by_cases h10 : c = 10
    ·rw [decide_eq_true h10]
     rw [if_pos h10] at h3
     refine iF rfl ?_
     exact fin (by omega)
    ·rw [decide_eq_false h10]
     rw [if_neg h10] at h3
     refine iT rfl ?_
     have e : ∀ _ : Unit, fW .i64 ((i : Int) + 1) = ((i + 1 : Nat) : Int) := fun _ => fw_s (by omega)
     have ih := rnote_l hk hs hl' ha f (i + 1) (by omega) (by omega) (by rw [hr]; omega) (by omega)
     show g46_l18 k s (a : Int) f (fW .i64 ((i : Int) + 1)) = _
     rw [e ()]
     exact ih
  ·refine (jS (v := (false, (i : Int))) (fun j => ?_)).trans ?_
   ·refine iF (dF (by omega)) rfl
   ·refine iF rfl ?_
    rw [dnil hi] at h3
    exact fin (by simpa [lineN] using h3)
theorem rOne_at {k : Nat} {s : List Nat} (hk : s.length + 40 < k) (hs : By s) (hl : Sz s) {a : Nat} (ha : a < s.length) : g46 k s (a : Int) = some (oneAt s a) := by
 have hl' := hl
 unfold Sz at hl
 unfold g46 oneAt
 refine (jS (v := false) (fun j => by simp (disch := omega) only [↓reduceIte, ↓jn, gsL])).trans ?_
 refine iF rfl ?_
 obtain ⟨c, r, hc, hr, hm, hrl⟩ := dcons ha
 have c256 := hs c hm
 have nc := nthX (x := (a : Int)) rfl hc
 have ol := oneN_le (s.drop a)
 rw [List.length_drop] at ol
 refine bS (by (try simp (disch := omega) only [fwI]); exact nc) ?_
 by_cases h37 : c = 37
 ·subst h37
  refine iT rfl ?_
  have e : oneN (s.drop a) = (cmtN (s.drop a), 11) := by rw [hc]; rfl
  rw [e, if_neg (by rw [hc]; have := cmtN_pos r; show ¬ cmtN (37 :: r) = 0; omega)]
  exact rnote_l (by omega) hs hl' hc k a (by omega) (by omega) rfl (Nat.le_refl _)
 refine iF (dF (by omega)) ?_
 have out : ∀ (n kind : Nat), n ≤ s.length - a → (if decide ((n : Int) = 0) then some (tok0, (4 : Int)) else (subL s (some (a : Int)) (some (fW .i64 ((a : Int) + (n : Int))))).bind fun x14_6 => some ((⟨(kind : Int), x14_6, (a : Int)⟩ : S46), (0 : Int))) = some (if n = 0 then (tok0, 4) else (mkTok s (kind, a, n), 0)) := by
  intro n kind hn
  by_cases h0 : n = 0
  ·rw [if_pos h0]
   refine iT (dT (by omega)) rfl
  ·rw [if_neg h0]
   refine iF (dF (by omega)) ?_
   rw [fw_a (by omega) (by omega)]
   refine bS (by (try simp (disch := omega) only [fwI]); exact subMid (s := s) (i := a) (j := a + n) rfl rfl (by omega) (by omega)) ?_
   rw [List.drop_take, Nat.add_sub_cancel_left]; rfl
 have isD : ∀ _ : Unit, (∀ (j : Bool → Option (S46 × Int)), (if (decide ((c : Int) = 46)) then (if (decide (fW .i64 ((a : Int) + 1) = (s.length : Int))) then (j true) else ((nthS s (fW .i64 ((a : Int) + 1))).bind fun x1_12 => if (decide (x1_12 = 37)) then (j true) else ((g45 k s (fW .i64 ((a : Int) + 1))).bind fun x1_19 => j (decide (fW .i64 ((a : Int) + 1) < x1_19))))) else (j false)) = j (decide (c = 46) && dotN r)) := by
  intro _ j
  by_cases h46 : c = 46
  ·rw [decide_eq_true h46, Bool.true_and]
   refine iT (dT (by omega)) ?_
   rw [fw_s (by omega)]
   cases r with
   | nil =>
    simp only [List.length_nil] at hrl
    refine iT (dT (by omega)) rfl
   | cons d q =>
    simp only [List.length_cons] at hrl
    have nd := nthX (x := ((a + 1 : Nat) : Int)) rfl hr
    refine iF (dF (by omega)) ?_
    refine bS (by (try simp (disch := omega) only [fwI]); exact nd) ?_
    simp only [dotN]
    by_cases h37 : d = 37
    ·refine iT (dT (by omega)) ?_
     rw [decide_eq_true h37, Bool.or_true]
    ·refine iF (dF (by omega)) ?_
     have rb := rblank_at (k := k) (by omega) hs hl' (a := a + 1) (by omega)
     rw [hr] at rb
     refine bS (by (try simp (disch := omega) only [fwI]); exact rb) ?_
     rw [decide_eq_false h37, Bool.or_false]
     refine congrArg j ?_
     by_cases hb : blkN d = true
     ·have e : skipN (d :: q) = skipN q + 1 := by simp only [skipN, hb, if_true]
      rw [hb]; exact decide_eq_true (by omega)
     ·have e : skipN (d :: q) = 0 := by simp only [skipN, if_neg hb]
      rw [Bool.eq_false_iff.2 hb]; exact decide_eq_false (by omega)
  ·rw [decide_eq_false h46, Bool.false_and]
   refine iF (dF (by omega)) rfl
 have eo : oneN (s.drop a) = if c = 46 ∧ dotN r = true then (1, 10) else if c = 39 then (qtdN (s.drop a), 1) else if c = 34 then (qtdN (s.drop a), 6) else if c = 36 then (chrN (s.drop a), 5) else if c = 63 then (macN (s.drop a), 7)
  else if begN c = 3 then numN (s.drop a) else if begN c = 1 ∨ begN c = 2 then (innN (s.drop a), if rsvN ((s.drop a).take (innN (s.drop a))) then 8 else begN c) else (lngN (s.drop a), 9) := by
  rw [hc]; simp only [oneN]; rw [if_neg h37]
 refine (jS (v := decide (c = 46) && dotN r) (fun j => isD () j)).trans ?_
 clear isD
 have il := innN_le (s.drop a)
 rw [List.length_drop] at il
 by_cases h46 : c = 46 ∧ dotN r = true
 ·rw [if_pos h46] at eo
  rw [eo] at ol ⊢
  obtain ⟨h1, h2⟩ := h46
  rw [decide_eq_true h1, h2]
  refine (jS (v := (((10 : Nat) : Int), ((1 : Nat) : Int))) (fun j => iT (Bool.and_self true) (congrArg j (Prod.ext rfl rfl)))).trans ?_
  exact out 1 10 ol
 ·rw [if_neg h46] at eo
  have : (decide (c = 46) && dotN r) = false := by
   rw [Bool.and_eq_false_iff]
   by_cases h : c = 46
   ·right
    cases hd : dotN r with
    | true => exact absurd ⟨h, hd⟩ h46
    | false => rfl
   ·left; exact decide_eq_false h
  rw [this]
  have bg := begins_at58 k c256
  have nodig : (c = 39 ∨ c = 34 ∨ c = 36 ∨ c = 63) → begN c = 0 := by rintro (rfl | rfl | rfl | rfl) <;> decide
  by_cases h39 : c = 39
  ·rw [if_pos h39] at eo
   rw [eo] at ol ⊢
   subst h39
   refine (jS (v := (((1 : Nat) : Int), (qtdN (s.drop a) : Int))) (fun j => ?_)).trans ?_
   ·refine iF rfl ?_
    refine bS (by (try simp (disch := omega) only [fwI]); exact bg) ?_
    refine iF rfl ?_
    refine bS (by (try simp (disch := omega) only [fwI]); exact bg) ?_
    refine iF rfl ?_
    refine iT rfl ?_
    refine bS (by (try simp (disch := omega) only [fwI]); exact rquoted_at (by omega) hs hl' hc (.inl rfl)) ?_
    rfl
   ·exact out _ 1 ol
  rw [if_neg h39] at eo
  by_cases h34 : c = 34
  ·rw [if_pos h34] at eo
   rw [eo] at ol ⊢
   subst h34
   refine (jS (v := (((6 : Nat) : Int), (qtdN (s.drop a) : Int))) (fun j => ?_)).trans ?_
   ·refine iF rfl ?_
    refine bS (by (try simp (disch := omega) only [fwI]); exact bg) ?_
    refine iF rfl ?_
    refine bS (by (try simp (disch := omega) only [fwI]); exact bg) ?_
    refine iF rfl ?_
    refine iF rfl ?_
    refine iT rfl ?_
    refine bS (by (try simp (disch := omega) only [fwI]); exact rquoted_at (by omega) hs hl' hc (.inr rfl)) ?_
    rfl
   ·exact out _ 6 ol
  rw [if_neg h34] at eo
  by_cases h36 : c = 36
  ·rw [if_pos h36] at eo
   rw [eo] at ol ⊢
   subst h36
   refine (jS (v := (((5 : Nat) : Int), (chrN (s.drop a) : Int))) (fun j => ?_)).trans ?_
   ·refine iF rfl ?_
    refine bS (by (try simp (disch := omega) only [fwI]); exact bg) ?_
    refine iF rfl ?_
    refine bS (by (try simp (disch := omega) only [fwI]); exact bg) ?_
    refine iF rfl ?_
    refine iF rfl ?_
    refine iF rfl ?_
    refine iT rfl ?_
    refine bS (by (try simp (disch := omega) only [fwI]); exact rchar_at (by omega) hs hl' hc) ?_
    rfl
   ·exact out _ 5 ol
  rw [if_neg h36] at eo
  by_cases h63 : c = 63
  ·rw [if_pos h63] at eo
   rw [eo] at ol ⊢
   subst h63
   have mac : ∀ (n : Nat) (t : List Nat) (j : Int × Int → Option (S46 × Int)), a + n ≤ s.length → s.drop (a + n) = t →
    jn (fun (z23 : Bool) => if z23 then ((g60 k s ((a + n : Nat) : Int)).bind fun x13_2 => j (7, fW .i64 (x13_2 - (a : Int)))) else (j (0, 0))) (fun j23 => if (decide (((a + n : Nat) : Int) < (s.length : Int))) then ((nthS s ((a + n : Nat) : Int)).bind fun x12_7 => (g64 k x12_7).bind fun x12_8 => if x12_8 then (j23 true) else ((nthS s ((a + n : Nat) : Int)).bind fun x12_12 => j23 (decide (x12_12 = 95)))) else (j23 false)) = j (if macB t then (7, (mac1 n t : Int)) else (0, 0)) := by
    intro n t j hn ht
    rcases Nat.lt_or_ge (a + n) s.length with h | h
    ·obtain ⟨d, q, hd, hq, hdm, hql⟩ := dcons h
     rw [ht] at hd
     subst hd
     have nd := nthX (x := ((a + n : Nat) : Int)) rfl ht
     have lt := letter_at k (hs d hdm)
     have lb : (letN d || decide (d = 95)) = decide (begN d = 1 ∨ begN d = 2) := by
      have w := byteAll (f := fun d => (letN d || decide (d = 95)) == decide (begN d = 1 ∨ begN d = 2)) (by decide +kernel) (hs d hdm)
      exact eq_of_beq w
     refine (jS (v := decide (begN d = 1 ∨ begN d = 2)) (fun j23 => ?_)).trans ?_
     ·refine iT (dT (by omega)) ?_
      refine bS (by (try simp (disch := omega) only [fwI]); exact nd) ?_
      refine bS (by (try simp (disch := omega) only [fwI]); exact lt) ?_
      rw [← lb]
      cases letN d with
      | true => rfl
      | false =>
       refine iF rfl ?_
       refine bS (by (try simp (disch := omega) only [fwI]); exact nd) ?_
       rw [Bool.false_or]
       refine congrArg j23 ?_
       rw [Bool.eq_iff_iff]; simp; omega
     ·by_cases hb : begN d = 1 ∨ begN d = 2
      ·have mb : macB (d :: q) = true := decide_eq_true hb
       rw [decide_eq_true hb, mb]
       refine iT rfl ?_
       have ri := rinner_at (k := k) (by omega) hs hl' (a := a + n) hn
       rw [ht] at ri
       refine bS (by (try simp (disch := omega) only [fwI]); exact ri) ?_
       have il := innN_le (d :: q)
       simp only [List.length_cons] at il
       rw [fwI (by omega) (by omega)]
       simp only [mac1, if_pos hb, if_true]
       refine congrArg j (Prod.ext rfl ?_)
       show ((_ : Nat) : Int) - (a : Int) = ((_ : Nat) : Int)
       omega
      ·have mb : macB (d :: q) = false := decide_eq_false hb
       rw [decide_eq_false hb, mb]
       rfl
    ·rw [dnil h] at ht
     subst ht
     refine (jS (v := false) (fun j23 => ?_)).trans ?_
     ·refine iF (dF (by omega)) rfl
     ·rfl
   have fin : ∀ (n : Nat) (t : List Nat) (X : (Int × Int → Option (S46 × Int)) → Option (S46 × Int)), macN (s.drop a) = mac1 n t → (∀ j, X j = j (if macB t then (7, (mac1 n t : Int)) else (0, 0))) →
    jn (fun (z20 : Int × Int) => if (decide (z20.2 = 0)) then (some ((⟨(0 : Int), ([] : List Nat), (0 : Int)⟩ : S46), (4 : Int))) else ((subL s (some (a : Int)) (some (fW .i64 ((a : Int) + z20.2)))).bind fun x14_6 => some ((⟨z20.1, x14_6, (a : Int)⟩ : S46), (0 : Int)))) X = some (if (macN (s.drop a), 7).1 = 0 then (tok0, 4) else (mkTok s ((macN (s.drop a), 7).2, a, (macN (s.drop a), 7).1), 0)) := by
    intro n t X hm hX
    rw [hm] at ol ⊢
    cases h : macB t with
    | false =>
     rw [h] at hX
     have m0 : mac1 n t = 0 := by
      cases t with
      | nil => rfl
      | cons d q => simp only [mac1, if_neg (of_decide_eq_false h)]
     refine (jS hX).trans ?_
     rw [m0]; rfl
    | true =>
     rw [h] at hX
     refine (jS hX).trans ?_
     exact out _ 7 ol
   cases r with
   | nil =>
    simp only [List.length_nil] at hrl
    refine fin 1 [] _ (by rw [hc]; rfl) (fun j => ?_)
    refine iF rfl ?_
    refine bS (by (try simp (disch := omega) only [fwI]); exact bg) ?_
    refine iF rfl ?_
    refine bS (by (try simp (disch := omega) only [fwI]); exact bg) ?_
    refine iF rfl ?_
    refine iF rfl ?_
    refine iF rfl ?_
    refine iF rfl ?_
    refine iT rfl ?_
    refine (jS (v := false) (fun j => ?_)).trans ?_
    ·refine iF (dF (by rw [fw_s (by omega)]; omega)) rfl
    ·refine (jS (v := ((a + 1 : Nat) : Int)) (fun j => ?_)).trans ?_
     ·refine iF rfl ?_
      rw [fw_s (by omega)]
     ·exact mac 1 [] j (by omega) hr
   | cons d q =>
    simp only [List.length_cons] at hrl
    have nd := nthX (x := ((a + 1 : Nat) : Int)) rfl hr
    by_cases hd : d = 63
    ·refine fin 2 q _ (by rw [hc]; simp only [macN, hd, if_true]) (fun j => ?_)
     refine iF rfl ?_
     refine bS (by (try simp (disch := omega) only [fwI]); exact bg) ?_
     refine iF rfl ?_
     refine bS (by (try simp (disch := omega) only [fwI]); exact bg) ?_
     refine iF rfl ?_
     refine iF rfl ?_
     refine iF rfl ?_
     refine iF rfl ?_
     refine iT rfl ?_
     refine (jS (v := true) (fun j => ?_)).trans ?_
     ·rw [fw_s (by omega)]
      refine iT (dT (by omega)) ?_
      refine bS (by (try simp (disch := omega) only [fwI]); exact nd) ?_
      rw [dT (by omega)]
     ·refine (jS (v := ((a + 2 : Nat) : Int)) (fun j => ?_)).trans ?_
      ·refine iT rfl ?_
       rw [fw_s (by omega), fw_s (by omega)]
      ·exact mac 2 q j (by omega) (drop_step hr)
    ·refine fin 1 (d :: q) _ (by rw [hc]; simp only [macN, hd, if_false]) (fun j => ?_)
     refine iF rfl ?_
     refine bS (by (try simp (disch := omega) only [fwI]); exact bg) ?_
     refine iF rfl ?_
     refine bS (by (try simp (disch := omega) only [fwI]); exact bg) ?_
     refine iF rfl ?_
     refine iF rfl ?_
     refine iF rfl ?_
     refine iF rfl ?_
     refine iT rfl ?_
     refine (jS (v := false) (fun j => ?_)).trans ?_
     ·rw [fw_s (by omega)]
      refine iT (dT (by omega)) ?_
      refine bS (by (try simp (disch := omega) only [fwI]); exact nd) ?_
      rw [dF (by omega)]
     ·refine (jS (v := ((a + 1 : Nat) : Int)) (fun j => ?_)).trans ?_
      ·refine iF rfl ?_
       rw [fw_s (by omega)]
      ·exact mac 1 (d :: q) j (by omega) hr
  rw [if_neg h63] at eo
  by_cases h3 : begN c = 3
  ·rw [if_pos h3] at eo
   rw [eo] at ol ⊢
   refine jC fun j => ?_
   refine iF rfl ?_
   refine bS (by (try simp (disch := omega) only [fwI]); exact bg) ?_
   refine iT (dT (by omega)) ?_
   refine bS (by (try simp (disch := omega) only [fwI]); exact rnumber_at (by omega) hs hl' (a := a) (by omega)) ?_
   by_cases h0 : (numN (s.drop a)).1 = 0
   ·rw [if_pos h0]
   ·rw [if_neg h0]
  rw [if_neg h3] at eo
  by_cases h12 : begN c = 1 ∨ begN c = 2
  ·rw [if_pos h12] at eo
   rw [eo] at ol ⊢
   refine (jS (v := (((if rsvN ((s.drop a).take (innN (s.drop a))) then 8 else begN c : Nat) : Int), (innN (s.drop a) : Int))) (fun j => ?_)).trans ?_
   ·refine iF rfl ?_
    refine bS (by (try simp (disch := omega) only [fwI]); exact bg) ?_
    refine iF (dF (by omega)) ?_
    refine bS (by (try simp (disch := omega) only [fwI]); exact bg) ?_
    refine iT (dT (by omega)) ?_
    refine bS (by (try simp (disch := omega) only [fwI]); exact bg) ?_
    refine bS (by (try simp (disch := omega) only [fwI]); exact rinner_at (k := k) (by omega) hs hl' (a := a) (by omega)) ?_
    rw [fw_d (n := a + innN (s.drop a)) (m := a) (by omega) (by omega), Nat.add_sub_cancel_left, fw_a (by omega) (by omega)]
    refine bS (by (try simp (disch := omega) only [fwI]); exact subMid (s := s) (i := a) (j := a + innN (s.drop a)) rfl rfl (by omega) (by omega)) ?_
    rw [List.drop_take, Nat.add_sub_cancel_left]
    refine bS (by (try simp (disch := omega) only [fwI]); exact rreserved_at (by omega) _) ?_
    cases rsvN ((s.drop a).take (innN (s.drop a))) <;> rfl
   ·exact out _ _ il
  ·rw [if_neg h12] at eo
   rw [eo] at ol ⊢
   refine (jS (v := (((9 : Nat) : Int), (lngN (s.drop a) : Int))) (fun j => ?_)).trans ?_
   ·refine iF rfl ?_
    refine bS (by (try simp (disch := omega) only [fwI]); exact bg) ?_
    refine iF (dF (by omega)) ?_
    refine bS (by (try simp (disch := omega) only [fwI]); exact bg) ?_
    refine iF (dF (by have := begN_le c; omega)) ?_
    refine iF (dF (by omega)) ?_
    refine iF (dF (by omega)) ?_
    refine iF (dF (by omega)) ?_
    refine iF (dF (by omega)) ?_
    refine bS (by (try simp (disch := omega) only [fwI]); exact rlongest_at (k := k) (by omega) hl' (a := a) (by omega)) ?_
    rfl
   ·exact out _ 9 ol
end Go.Proofs.Ytbmijiibfaacmaa.Am
set_option maxRecDepth 100000
set_option linter.unusedVariables false
set_option linter.unusedSimpArgs false
namespace Go.Proofs.Ytbmijiibfaacmaa.Am
open Go
theorem rscan_l (k : Nat) {s : List Nat} (hk : s.length + 40 < k) (hs : By s) (hl : Sz s) (h16 : s.length ≤ 65536) : ∀ (d f a : Nat) (acc : List S46), s.length < a + d → d < f → a ≤ s.length → acc.length ≤ a → g28_l5 k s f ((a + skipN (s.drop a) : Nat) : Int) acc = some (match toksN s d a with | some l => (acc ++ l.map (mkTok s), 0) | none => ([], 4))
 | 0, f, a, acc, h, hf, ha, hacc => by omega
 | d + 1, f, a, acc, h, hf, ha, hacc => by
  have hl' := hl
  unfold Sz at hl
  obtain ⟨f, rfl⟩ : ∃ f', f = f' + 1 := ⟨f - 1, by omega⟩
  rw [g28_l5_s]
  have sl := skipN_le (s.drop a)
  rw [List.length_drop] at sl
  unfold toksN
  have hab : a ≤ a + skipN (s.drop a) := Nat.le_add_right _ _
  have hbl : a + skipN (s.drop a) ≤ s.length := by omega
  generalize a + skipN (s.drop a) = b at *
  by_cases hb : s.length ≤ b
  ·rw [if_pos hb]
   refine iF (dF (by omega)) ?_
   simp only [List.map_nil, List.append_nil]
  ·rw [if_neg hb]
   refine iT (dT (by omega)) ?_
   refine bS (by (try simp (disch := omega) only [fwI]); exact rOne_at hk hs hl' (a := b) (by omega)) ?_
   have ol := oneN_le (s.drop b)
   rw [List.length_drop] at ol
   unfold oneAt
   by_cases h0 : (oneN (s.drop b)).1 = 0
   ·rw [if_pos h0, if_pos h0]; rfl
   ·rw [if_neg h0, if_neg h0]
    refine iF rfl ?_
    have ap : appS 32 acc [mkTok s ((oneN (s.drop b)).2, b, (oneN (s.drop b)).1)] = some (acc ++ [mkTok s ((oneN (s.drop b)).2, b, (oneN (s.drop b)).1)]) := by
     unfold appS
     rw [if_pos (by simp only [List.length_cons, List.length_nil]; omega)]
    refine bS (by (try simp (disch := omega) only [fwI]); exact ap) ?_
    have tl : ((s.drop b).take (oneN (s.drop b)).1).length = (oneN (s.drop b)).1 := by
     rw [List.length_take, List.length_drop]; omega
    show (g45 k s (fW .i64 ((b : Int) + (((s.drop b).take (oneN (s.drop b)).1).length : Int)))).bind _ = _
    rw [tl, fw_a (by omega) (by omega)]
    have hpos : 0 < (oneN (s.drop b)).1 := Nat.pos_of_ne_zero h0
    refine bS (by (try simp (disch := omega) only [fwI]); exact rblank_at (by omega) hs hl' (a := b + (oneN (s.drop b)).1) (by omega)) ?_
    refine (rscan_l k hk hs hl' h16 d f (b + (oneN (s.drop b)).1) _ (by omega) (by omega) (by omega) (by rw [List.length_append]; simp only [List.length_cons, List.length_nil]; omega)).trans ?_
    cases toksN s d (b + (oneN (s.drop b)).1) with
    | none => rfl
    | some l => simp only [Option.map_some, List.map_cons, List.append_assoc, List.singleton_append]
theorem rscan_at {k : Nat} {s : List Nat} (hk : s.length + 40 < k) (hs : By s) (hl : Sz s) : g28 k s = some (scanN s) := by
 have hl' := hl
 unfold Sz at hl
 unfold g28 scanN
 by_cases h16 : 65536 < s.length
 ·rw [if_pos h16]
  refine iT (dT (by omega)) rfl
 ·rw [if_neg h16]
  refine iF (dF (by omega)) ?_
  refine bS (by (try simp (disch := omega) only [fwI]); exact valid_at44 (by omega) hs hl') ?_
  cases hv : vld s.length s with
  | false => rfl
  | true =>
   refine iF rfl ?_
   have rb := rblank_at (k := k) (by omega) hs hl' (a := 0) (by omega)
   refine bS (by (try simp (disch := omega) only [fwI]); exact rb) ?_
   refine (rscan_l k hk hs hl' (by omega) (s.length + 1) k 0 [] (by omega) (by omega) (by omega) (Nat.le_refl _)).trans ?_
   simp only [Bool.true_eq_false, if_false]
   cases toksN s (s.length + 1) 0 <;> rfl
end Go.Proofs.Ytbmijiibfaacmaa.Am
set_option maxRecDepth 100000
set_option linter.unusedVariables false
namespace Go.Proofs.Ytbmijiibfaacmaa.Am
noncomputable section
open Go
def X38 : Fx Int := ⟨Try.prog, cx, Try.f38, fun r => .int .i64 r, 0, fun _ => H0, cxTi, cxOrd⟩
def g38 (k : Nat) (a0 : S46) : Option Int :=
 some (fW .i64 (a0.f2 + (a0.f1.length : Int)))
theorem g38_ok (k : Nat) (a0 : S46) (r : Int) (h : g38 k a0 = some r) : PureOk Try.prog 38 [.agg [.int .i64 a0.f0, .str a0.f1, .int .i64 a0.f2]] (.int .i64 r) := by
 refine pure_of X38 (fun _ => rfl) Try.func38 (by decide +kernel) (by kernel_rfl) (t := g38 k a0) ?_ h
 unfold g38
 refine oE (eE := [(0, .agg [.int .i64 a0.f0, .str a0.f1, .int .i64 a0.f2])]) (by kernel_rfl) ?_
 let E1 : Env := [(2, .int .i64 (fW .i64 (a0.f2 + (a0.f1.length : Int)))), (8, .int .i64 (fW .i64 (a0.f2 + (a0.f1.length : Int)))), (7, .int .i64 (a0.f1.length : Int)), (6, .str a0.f1), (5, .ptr 0 3 1), (4, .int .i64 a0.f2), (3, .ptr 0 3 2), (2, .int .i64 0), (1, .ptr 0 3 0), (0, .agg [.int .i64 a0.f0, .str a0.f1, .int .i64 a0.f2])]
 refine oR 16 (p' := .fin) (eE := E1) (H' := (mkH [⟨[.int .i64 a0.f0, .str a0.f1, .int .i64 a0.f2], 0, false⟩])) (by kernel_rfl) ?_
 exact oT (r := (fW .i64 (a0.f2 + (a0.f1.length : Int)))) (xs := [.int .i64 (fW .i64 (a0.f2 + (a0.f1.length : Int)))]) (v := .int .i64 (fW .i64 (a0.f2 + (a0.f1.length : Int)))) (by kernel_rfl) (by kernel_rfl) (by kernel_rfl) (.pures (by kernel_rfl)) (by kernel_rfl)
end
end Go.Proofs.Ytbmijiibfaacmaa.Am
set_option maxRecDepth 100000
set_option linter.unusedVariables false
namespace Go.Proofs.Ytbmijiibfaacmaa.Am
noncomputable section
open Go
def X66 : Fx Bool := ⟨Try.prog, cx, Try.f66, fun r => .bool r, 0, fun _ => H0, cxTi, cxOrd⟩
def g66p0 : Pt := nav [0] (bodyAt Try.f66)
def g66p1 : Pt := nav [0, 0, 0] g66p0
def g66 (k : Nat) (a0 : (List Nat)) (a1 : S46) : Option Bool :=
 if (decide (0 ≤ a1.f2)) then (if (decide (a1.f2 ≤ (a0.length : Int))) then (some (decide ((a1.f1.length : Int) ≤ fW .i64 ((a0.length : Int) - a1.f2)))) else (some false)) else (some false)
theorem g66_ok (k : Nat) (a0 : (List Nat)) (a1 : S46) (r : Bool) (h : g66 k a0 a1 = some r) : PureOk Try.prog 66 [.str a0, .agg [.int .i64 a1.f0, .str a1.f1, .int .i64 a1.f2]] (.bool r) := by
 refine pure_of X66 (fun _ => rfl) Try.func66 (by decide +kernel) (by kernel_rfl) (t := g66 k a0 a1) ?_ h
 unfold g66
 refine oE (eE := [(0, .str a0), (1, .agg [.int .i64 a1.f0, .str a1.f1, .int .i64 a1.f2])]) (by kernel_rfl) ?_
 let E1 : Env := [(8, .bool (decide (0 ≤ a1.f2))), (7, .bool (decide (0 ≤ a1.f2))), (6, .int .i64 a1.f2), (5, .ptr 0 3 2), (4, .bool false), (3, .ptr 0 3 0), (0, .str a0), (1, .agg [.int .i64 a1.f0, .str a1.f1, .int .i64 a1.f2])]
 refine oR 11 (p' := (atN 4 (ctl1 g66p1))) (eE := E1) (H' := (mkH [⟨[.int .i64 a1.f0, .str a1.f1, .int .i64 a1.f2], 0, false⟩])) (by kernel_rfl) ?_
 refine oS 8 (b := decide (0 ≤ a1.f2)) (by kernel_rfl) (fun hb => ?_) (fun hb => ?_)
 ·let E2 : Env := ((15, .bool (decide (a1.f2 ≤ (a0.length : Int)))) :: (14, .bool (decide (a1.f2 ≤ (a0.length : Int)))) :: (13, .bool (decide (a1.f2 ≤ (a0.length : Int)))) :: (12, .int .i64 (a0.length : Int)) :: (11, .str a0) :: (10, .int .i64 a1.f2) :: (9, .ptr 0 3 2) :: (8, .bool true) :: E1)
  refine oR 7 (p' := (atN 11 (ctl1 g66p1))) (eE := E2) (H' := (mkH [⟨[.int .i64 a1.f0, .str a1.f1, .int .i64 a1.f2], 0, false⟩])) (by kernel_rfl) ?_
  refine oS 15 (b := decide (a1.f2 ≤ (a0.length : Int))) (by kernel_rfl) (fun hb => ?_) (fun hb => ?_)
  ·let E3 : Env := ((4, .bool (decide ((a1.f1.length : Int) ≤ fW .i64 ((a0.length : Int) - a1.f2)))) :: (25, .bool (decide ((a1.f1.length : Int) ≤ fW .i64 ((a0.length : Int) - a1.f2)))) :: (24, .bool (decide ((a1.f1.length : Int) ≤ fW .i64 ((a0.length : Int) - a1.f2)))) :: (23, .int .i64 (fW .i64 ((a0.length : Int) - a1.f2))) :: (22, .int .i64 a1.f2) :: (21, .ptr 0 3 2) :: (20, .int .i64 (a0.length : Int)) :: (19, .str a0) :: (18, .int .i64 (a1.f1.length : Int)) :: (17, .str a1.f1) :: (16, .ptr 0 3 1) :: (15, .bool true) :: E2)
   refine oR 13 (p' := .fin) (eE := E3) (H' := (mkH [⟨[.int .i64 a1.f0, .str a1.f1, .int .i64 a1.f2], 0, false⟩])) (by kernel_rfl) ?_
   exact oT (r := (decide ((a1.f1.length : Int) ≤ fW .i64 ((a0.length : Int) - a1.f2)))) (xs := [.bool (decide ((a1.f1.length : Int) ≤ fW .i64 ((a0.length : Int) - a1.f2)))]) (v := .bool (decide ((a1.f1.length : Int) ≤ fW .i64 ((a0.length : Int) - a1.f2)))) (by kernel_rfl) (by kernel_rfl) (by kernel_rfl) (.pures (by kernel_rfl)) (by kernel_rfl)
  ·let E4 : Env := ((4, .bool false) :: (25, .bool false) :: (24, .tuple []) :: (23, .tuple []) :: (22, .tuple []) :: (21, .tuple []) :: (20, .tuple []) :: (19, .tuple []) :: (18, .tuple []) :: (17, .tuple []) :: (16, .tuple []) :: (15, .bool false) :: E2)
   refine oR 13 (p' := .fin) (eE := E4) (H' := (mkH [⟨[.int .i64 a1.f0, .str a1.f1, .int .i64 a1.f2], 0, false⟩])) (by kernel_rfl) ?_
   exact oT (r := false) (xs := [.bool false]) (v := .bool false) (by kernel_rfl) (by kernel_rfl) (by kernel_rfl) (.pures (by kernel_rfl)) (by kernel_rfl)
 ·let E5 : Env := ((4, .bool false) :: (25, .bool false) :: (24, .tuple []) :: (23, .tuple []) :: (22, .tuple []) :: (21, .tuple []) :: (20, .tuple []) :: (19, .tuple []) :: (18, .tuple []) :: (17, .tuple []) :: (16, .tuple []) :: (15, .bool false) :: (14, .bool false) :: (13, .tuple []) :: (12, .tuple []) :: (11, .tuple []) :: (10, .tuple []) :: (9, .tuple []) :: (8, .bool false) :: E1)
  refine oR 20 (p' := .fin) (eE := E5) (H' := (mkH [⟨[.int .i64 a1.f0, .str a1.f1, .int .i64 a1.f2], 0, false⟩])) (by kernel_rfl) ?_
  exact oT (r := false) (xs := [.bool false]) (v := .bool false) (by kernel_rfl) (by kernel_rfl) (by kernel_rfl) (.pures (by kernel_rfl)) (by kernel_rfl)
end
end Go.Proofs.Ytbmijiibfaacmaa.Am
set_option maxRecDepth 100000
set_option linter.unusedVariables false
namespace Go.Proofs.Ytbmijiibfaacmaa.Am
noncomputable section
open Go
def X49 : Fx Int := ⟨Try.prog, cx, Try.f49, fun r => .int .i64 r, 0, fun _ => H0, cxTi, cxOrd⟩
def X49f67_0 (a_0 : Int) (b_1 : Int) : Fx Int := ⟨Try.prog, cx, Try.f67, fun r => .tuple [], 1, fun r => (mkH [⟨[.int .i64 r], 1, false⟩]), cxTi, cxOrd⟩
def g49f67_0p0 : Pt := nav [0] (bodyAt Try.f67)
def g49f67_0p1 : Pt := nav [0, 0] g49f67_0p0
def g49f67_0 (k : Nat) (a_0 : Int) (b_1 : Int) : Option Int :=
 if (decide (a_0 = 10)) then (some (fW .i64 (b_1 + 1))) else (some b_1)
theorem g49f67_0_ok (k : Nat) (a_0 : Int) (b_1 : Int) (r : Int) (h : g49f67_0 k a_0 b_1 = some r) : CallV Try.prog 67 [.int .u8 a_0, .ptr 0 1 0] (mkH [⟨[.int .i64 b_1], 1, false⟩]) (.tuple []) (mkH [⟨[.int .i64 r], 1, false⟩]) := by
 refine callM_of (X49f67_0 a_0 b_1) Try.func67 (by kernel_rfl) (by kernel_rfl) rfl (t := g49f67_0 k a_0 b_1) ?_ h
 unfold g49f67_0
 refine oE (eE := [(0, .int .u8 a_0), (1, .ptr 0 1 0)]) (by kernel_rfl) ?_
 refine oR 5 (p' := g49f67_0p1) (eE := [(4, .bool (decide (a_0 = 10))), (3, .int .u8 a_0), (0, .int .u8 a_0), (1, .ptr 0 1 0)]) (H' := (mkH [⟨[.int .i64 b_1], 1, false⟩])) (by kernel_rfl) ?_
 refine oS 4 (b := decide (a_0 = 10)) (by kernel_rfl) (fun hb => ?_) (fun hb => ?_)
 ·let E1 : Env := [(6, .int .i64 (fW .i64 (b_1 + 1))), (5, .int .i64 b_1), (4, .bool true), (4, .bool (decide (a_0 = 10))), (3, .int .u8 a_0), (0, .int .u8 a_0), (1, .ptr 0 1 0)]
  refine oR 6 (p' := .fin) (eE := E1) (H' := (mkH [⟨[.int .i64 (fW .i64 (b_1 + 1))], 1, false⟩])) (by kernel_rfl) ?_
  refine oK [] (eE := []) (by kernel_rfl) ?_
  exact ok_retM (r := (fW .i64 (b_1 + 1))) (xs := []) (by kernel_rfl) (by kernel_rfl) (by kernel_rfl) (by kernel_rfl)
 ·let E2 : Env := [(4, .bool false), (4, .bool (decide (a_0 = 10))), (3, .int .u8 a_0), (0, .int .u8 a_0), (1, .ptr 0 1 0)]
  refine oR 2 (p' := .fin) (eE := E2) (H' := (mkH [⟨[.int .i64 b_1], 1, false⟩])) (by kernel_rfl) ?_
  refine oK [] (eE := []) (by kernel_rfl) ?_
  exact ok_retM (r := b_1) (xs := []) (by kernel_rfl) (by kernel_rfl) (by kernel_rfl) (by kernel_rfl)
def g49p0 : Pt := nav [0] (bodyAt Try.f49)
def g49p1 : Pt := nav [0, 0, 0, 0] g49p0
def g49p2 : Pt := nav [0] g49p1
def g49p4 : Pt := nav [2, 0, 0] g49p2
def g49p6 : Pt := nav [0, 0, 0] g49p4
def g49p7 : Pt := nav [0, 0, 0, 0] g49p6
def g49p8 : Pt := nav [0, 0, 0, 0] g49p7
def g49p9 : Pt := nav [0, 0, 0] g49p8
def g49p10 : Pt := nav [0, 0] g49p9
def g49p11 : Pt := nav [1, 0, 0, 0] g49p10
def g49p13 : Pt := nav [0, 0] g49p11
def g49_l5 (k : Nat)  (a0 : (List Nat)) (a1 : (List S46)) (a2 : Int) (n : Nat) : Int → Int → Option Int :=
 Nat.rec (motive := fun _ => Int → Int → Option Int) (fun _ _ => none) (fun _ ih => fun (y5_0 : Int) (y5_1 : Int) => (nthL a1 a2).bind fun x2_3 => if (decide (y5_0 < x2_3.f2)) then ((nthS a0 y5_0).bind fun x3_3 => (g49f67_0 k x3_3 y5_1).bind fun x3_4 => ih (fW .i64 (y5_0 + 1)) x3_4) else (some y5_1)) n
theorem g49_l5_s (k : Nat)  (a0 : (List Nat)) (a1 : (List S46)) (a2 : Int) (n : Nat) (y5_0 : Int) (y5_1 : Int) : g49_l5 k a0 a1 a2 (n + 1) y5_0 y5_1 = ((nthL a1 a2).bind fun x2_3 => if (decide (y5_0 < x2_3.f2)) then ((nthS a0 y5_0).bind fun x3_3 => (g49f67_0 k x3_3 y5_1).bind fun x3_4 => (g49_l5 k a0 a1 a2 n) (fW .i64 (y5_0 + 1)) x3_4) else (some y5_1)) := rfl
theorem g49_l5_ok (k : Nat)  (a0 : (List Nat)) (a1 : (List S46)) (a2 : Int)  : ∀ (n : Nat) (y5_0 : Int) (y5_1 : Int), Ok X49 g49p8 [(0, .str a0), (1, .vec (a1).length 3 ((a1).flatMap e47)), (2, .int .i64 a2), (7, .ptr 0 1 0), (8, .func 67 [] [.ptr 0 1 0]), (9, .int .i64 y5_0)] (mkH [⟨[.int .i64 y5_1], 1, false⟩]) (g49_l5 k a0 a1 a2 n y5_0 y5_1)
 | 0, _, _ => ok_none
 | n + 1, y5_0, y5_1 => by
  have ih := g49_l5_ok k a0 a1 a2 n
  rw [g49_l5_s]
  refine ok_ent (p' := nav [0] g49p8) (by kernel_rfl) ?_
  let E3 : Env := [(60, .int .i64 a2), (59, .vec (a1).length 3 ((a1).flatMap e47)), (58, .int .i64 y5_0), (0, .str a0), (1, .vec (a1).length 3 ((a1).flatMap e47)), (2, .int .i64 a2), (7, .ptr 0 1 0), (8, .func 67 [] [.ptr 0 1 0]), (9, .int .i64 y5_0)]
  refine oR 6 (p' := (atN 3 (ctl1 g49p9))) (eE := E3) (H' := (mkH [⟨[.int .i64 y5_1], 1, false⟩])) (by kernel_rfl) ?_
  refine oH (fun (x2_3 : S46) => (.vptr [.int .i64 x2_3.f0, .str x2_3.f1, .int .i64 x2_3.f2], (mkH [⟨[.int .i64 y5_1], 1, false⟩]))) (atN 4 (ctl1 g49p9)) (fun x2_3 => ((61, .vptr [.int .i64 x2_3.f0, .str x2_3.f1, .int .i64 x2_3.f2]) :: E3)) (vidxH (sz := 3) e47_len (by kernel_rfl)) (fun _ => by kernel_rfl) (fun x2_3 hx2_3 => ?_)
  refine oR 4 (p' := g49p10) (eE := ((64, .bool (decide (y5_0 < x2_3.f2))) :: (63, .int .i64 x2_3.f2) :: (62, .vptr [.int .i64 x2_3.f2]) :: (61, .vptr [.int .i64 x2_3.f0, .str x2_3.f1, .int .i64 x2_3.f2]) :: E3)) (H' := (mkH [⟨[.int .i64 y5_1], 1, false⟩])) (by kernel_rfl) ?_
  refine oS 64 (b := decide (y5_0 < x2_3.f2)) (by kernel_rfl) (fun hb => ?_) (fun hb => ?_)
  ·let E4 : Env := ((69, .int .i64 y5_0) :: (68, .str a0) :: (67, .func 67 [] [.ptr 0 1 0]) :: (64, .bool true) :: (64, .bool (decide (y5_0 < x2_3.f2))) :: (63, .int .i64 x2_3.f2) :: (62, .vptr [.int .i64 x2_3.f2]) :: (61, .vptr [.int .i64 x2_3.f0, .str x2_3.f1, .int .i64 x2_3.f2]) :: E3)
   refine oR 8 (p' := (atN 3 (ctl1 g49p11))) (eE := E4) (H' := (mkH [⟨[.int .i64 y5_1], 1, false⟩])) (by kernel_rfl) ?_
   refine oH (fun (x3_3 : Int) => (.int .u8 x3_3, (mkH [⟨[.int .i64 y5_1], 1, false⟩]))) (atN 4 (ctl1 g49p11)) (fun x3_3 => ((70, .int .u8 x3_3) :: E4)) (idxH (by kernel_rfl)) (fun _ => by kernel_rfl) (fun x3_3 hx3_3 => ?_)
   refine ok_callM (fun (x3_4 : Int) => .tuple []) (fun (x3_4 : Int) => (mkH [⟨[.int .i64 x3_4], 1, false⟩])) (atN 5 (ctl1 g49p11)) (fun x3_4 => ((71, .tuple []) :: (70, .int .u8 x3_3) :: E4)) (fi := 67) (args := [.int .u8 x3_3, .ptr 0 1 0]) (by kernel_rfl) (fun r h => g49f67_0_ok k x3_3 y5_1 r h) (fun _ => by kernel_rfl) (fun x3_4 hx3_4 => ?_)
   refine oR 1 (p' := g49p13) (eE := ((71, .tuple []) :: (70, .int .u8 x3_3) :: E4)) (H' := (mkH [⟨[.int .i64 x3_4], 1, false⟩])) (by kernel_rfl) ?_
   refine oK [0, 1, 2, 7, 8, 9] (eE := [(0, .str a0), (1, .vec (a1).length 3 ((a1).flatMap e47)), (2, .int .i64 a2), (7, .ptr 0 1 0), (8, .func 67 [] [.ptr 0 1 0]), (9, .int .i64 y5_0)]) (by kernel_rfl) ?_
   let E5 : Env := [(9, .int .i64 (fW .i64 (y5_0 + 1))), (66, .int .i64 (fW .i64 (y5_0 + 1))), (65, .int .i64 y5_0), (0, .str a0), (1, .vec (a1).length 3 ((a1).flatMap e47)), (2, .int .i64 a2), (7, .ptr 0 1 0), (8, .func 67 [] [.ptr 0 1 0]), (9, .int .i64 y5_0)]
   refine oR 5 (p' := g49p8) (eE := E5) (H' := (mkH [⟨[.int .i64 x3_4], 1, false⟩])) (by kernel_rfl) ?_
   refine oK [0, 1, 2, 7, 8, 9] (eE := [(0, .str a0), (1, .vec (a1).length 3 ((a1).flatMap e47)), (2, .int .i64 a2), (7, .ptr 0 1 0), (8, .func 67 [] [.ptr 0 1 0]), (9, .int .i64 (fW .i64 (y5_0 + 1)))]) (by kernel_rfl) ?_
   exact ih (fW .i64 (y5_0 + 1)) x3_4
  ·let E6 : Env := ((6, .int .i64 y5_1) :: (72, .int .i64 y5_1) :: (64, .bool false) :: (64, .bool (decide (y5_0 < x2_3.f2))) :: (63, .int .i64 x2_3.f2) :: (62, .vptr [.int .i64 x2_3.f2]) :: (61, .vptr [.int .i64 x2_3.f0, .str x2_3.f1, .int .i64 x2_3.f2]) :: E3)
   refine oR 8 (p' := .fin) (eE := E6) (H' := (mkH [⟨[.int .i64 y5_1], 1, false⟩])) (by kernel_rfl) ?_
   exact oT (r := y5_1) (xs := [.int .i64 y5_1]) (v := .int .i64 y5_1) (by kernel_rfl) (by kernel_rfl) (by kernel_rfl) (.pures (by kernel_rfl)) (by kernel_rfl)
def g49 (k : Nat) (a0 : (List Nat)) (a1 : (List S46)) (a2 : Int) : Option Int :=
 jn (fun (z4 : Bool) => if z4 then (some (0 : Int)) else ((nthL a1 (fW .i64 (a2 - 1))).bind fun x1_3 => (g38 k (⟨x1_3.f0, x1_3.f1, x1_3.f2⟩ : S46)).bind fun x1_5 => g49_l5 k a0 a1 a2 k x1_5 0)) (fun j4 => if (decide (a2 < 1)) then (j4 true) else (if (decide ((a1.length : Int) ≤ a2)) then (j4 true) else ((nthL a1 (fW .i64 (a2 - 1))).bind fun x0_13 => (g66 k a0 (⟨x0_13.f0, x0_13.f1, x0_13.f2⟩ : S46)).bind fun x0_15 => if (!x0_15) then (j4 true) else ((nthL a1 a2).bind fun x0_22 => (g66 k a0 (⟨x0_22.f0, x0_22.f1, x0_22.f2⟩ : S46)).bind fun x0_24 => if (!x0_24) then (j4 true) else ((nthL a1 (fW .i64 (a2 - 1))).bind fun x0_31 => (g38 k (⟨x0_31.f0, x0_31.f1, x0_31.f2⟩ : S46)).bind fun x0_33 => (nthL a1 a2).bind fun x0_36 => j4 (decide (x0_36.f2 < x0_33)))))))
theorem g49_ok (k : Nat) (a0 : (List Nat)) (a1 : (List S46)) (a2 : Int) (r : Int) (h : g49 k a0 a1 a2 = some r) : PureOk Try.prog 49 [.str a0, .vec (a1).length 3 ((a1).flatMap e47), .int .i64 a2] (.int .i64 r) := by
 refine pure_of X49 (fun _ => rfl) Try.func49 (by decide +kernel) (by kernel_rfl) (t := g49 k a0 a1 a2) ?_ h
 unfold g49
 refine oE (eE := [(0, .str a0), (1, .vec (a1).length 3 ((a1).flatMap e47)), (2, .int .i64 a2)]) (by kernel_rfl) ?_
 refine oR 6 (p' := g49p1) (eE := [(6, .int .i64 0), (0, .str a0), (1, .vec (a1).length 3 ((a1).flatMap e47)), (2, .int .i64 a2)]) (H' := (mkH [])) (by kernel_rfl) ?_
 refine oJ (f := fun (z4 : Bool) => if z4 then (some (0 : Int)) else ((nthL a1 (fW .i64 (a2 - 1))).bind fun x1_3 => (g38 k (⟨x1_3.f0, x1_3.f1, x1_3.f2⟩ : S46)).bind fun x1_5 => g49_l5 k a0 a1 a2 k x1_5 0)) g49p2 (fun (z4 : Bool) => [(0, .str a0), (1, .vec (a1).length 3 ((a1).flatMap e47)), (2, .int .i64 a2), (50, .bool z4)]) (fun (z4 : Bool) => (mkH [])) (fun z4 => ?_) (fun j4 hj4 => ?_)
 ·refine oS 50 (b := z4) (by kernel_rfl) (fun hb => ?_) (fun hb => ?_)
  ·let E1 : Env := [(6, .int .i64 0), (50, .bool true), (0, .str a0), (1, .vec (a1).length 3 ((a1).flatMap e47)), (2, .int .i64 a2), (50, .bool z4)]
   refine oR 6 (p' := .fin) (eE := E1) (H' := (mkH [])) (by kernel_rfl) ?_
   exact oT (r := (0 : Int)) (xs := [.int .i64 0]) (v := .int .i64 0) (by kernel_rfl) (by kernel_rfl) (by kernel_rfl) (.pures (by kernel_rfl)) (by kernel_rfl)
  ·let E2 : Env := [(54, .int .i64 (fW .i64 (a2 - 1))), (53, .int .i64 a2), (52, .vec (a1).length 3 ((a1).flatMap e47)), (8, .func 67 [] [.ptr 0 1 0]), (51, .func 67 [] [.ptr 0 1 0]), (7, .ptr 0 1 0), (50, .bool false), (0, .str a0), (1, .vec (a1).length 3 ((a1).flatMap e47)), (2, .int .i64 a2), (50, .bool z4)]
   refine oR 18 (p' := (atN 3 (ctl1 g49p7))) (eE := E2) (H' := (mkH [⟨[.int .i64 0], 1, false⟩])) (by kernel_rfl) ?_
   refine oH (fun (x1_3 : S46) => (.vptr [.int .i64 x1_3.f0, .str x1_3.f1, .int .i64 x1_3.f2], (mkH [⟨[.int .i64 0], 1, false⟩]))) (atN 4 (ctl1 g49p7)) (fun x1_3 => ((55, .vptr [.int .i64 x1_3.f0, .str x1_3.f1, .int .i64 x1_3.f2]) :: E2)) (vidxH (sz := 3) e47_len (by kernel_rfl)) (fun _ => by kernel_rfl) (fun x1_3 hx1_3 => ?_)
   refine oR 1 (p' := (atN 5 (ctl1 g49p7))) (eE := ((56, .agg [.int .i64 x1_3.f0, .str x1_3.f1, .int .i64 x1_3.f2]) :: (55, .vptr [.int .i64 x1_3.f0, .str x1_3.f1, .int .i64 x1_3.f2]) :: E2)) (H' := (mkH [⟨[.int .i64 0], 1, false⟩])) (by kernel_rfl) ?_
   refine oC (fun (x1_5 : Int) => .int .i64 x1_5) (atN 6 (ctl1 g49p7)) (fun x1_5 => ((57, .int .i64 x1_5) :: (56, .agg [.int .i64 x1_3.f0, .str x1_3.f1, .int .i64 x1_3.f2]) :: (55, .vptr [.int .i64 x1_3.f0, .str x1_3.f1, .int .i64 x1_3.f2]) :: E2)) (fi := 38) (args := [.agg [.int .i64 x1_3.f0, .str x1_3.f1, .int .i64 x1_3.f2]]) (by kernel_rfl) (by kernel_rfl) (fun _ => by kernel_rfl) (fun r h => g38_ok k (⟨x1_3.f0, x1_3.f1, x1_3.f2⟩ : S46) r h) (fun _ => by kernel_rfl) (fun x1_5 hx1_5 => ?_)
   refine oR 4 (p' := g49p8) (eE := ((9, .int .i64 x1_5) :: (57, .int .i64 x1_5) :: (56, .agg [.int .i64 x1_3.f0, .str x1_3.f1, .int .i64 x1_3.f2]) :: (55, .vptr [.int .i64 x1_3.f0, .str x1_3.f1, .int .i64 x1_3.f2]) :: E2)) (H' := (mkH [⟨[.int .i64 0], 1, false⟩])) (by kernel_rfl) ?_
   refine oK [0, 1, 2, 7, 8, 9] (eE := [(0, .str a0), (1, .vec (a1).length 3 ((a1).flatMap e47)), (2, .int .i64 a2), (7, .ptr 0 1 0), (8, .func 67 [] [.ptr 0 1 0]), (9, .int .i64 x1_5)]) (by kernel_rfl) ?_
   exact (g49_l5_ok k a0 a1 a2 k) x1_5 0
 ·refine ok_if (fun hb4 => ?_) (fun hb4 => ?_)
  ·let E7 : Env := [(12, .bool (decide (a2 < 1))), (11, .bool (decide (a2 < 1))), (10, .int .i64 a2), (6, .int .i64 0), (0, .str a0), (1, .vec (a1).length 3 ((a1).flatMap e47)), (2, .int .i64 a2)]
   let E8 : Env := [(50, .bool true), (49, .tuple []), (48, .tuple []), (47, .tuple []), (46, .tuple []), (45, .tuple []), (44, .tuple []), (43, .tuple []), (42, .tuple []), (41, .tuple []), (40, .tuple []), (39, .tuple []), (38, .tuple []), (37, .bool true), (36, .bool true), (35, .tuple []), (34, .tuple []), (33, .tuple []), (32, .tuple []), (31, .tuple []), (30, .tuple []), (29, .tuple []), (28, .bool true), (27, .bool true), (26, .tuple []), (25, .tuple []), (24, .tuple []), (23, .tuple []), (22, .tuple []), (21, .tuple []), (20, .tuple []), (19, .tuple []), (18, .bool true), (17, .bool true), (16, .tuple []), (15, .tuple []), (14, .tuple []), (13, .tuple []), (12, .bool true), (11, .bool true), (10, .int .i64 a2), (6, .int .i64 0), (0, .str a0), (1, .vec (a1).length 3 ((a1).flatMap e47)), (2, .int .i64 a2)]
   refine ok_draw (p' := nav [0] g49p1) (eE := E8) (H' := (mkH [])) (hs := [(mkH []), (mkH []), (mkH [])]) [(0, 0, 0), (1, 0, 0), (3, 0, 0), (7, 0, 0), (7, 0, 0), (23, 0, 0), (63, 0, 0), (127, 0, 0), (255, 0, 0), (511, 0, 0), (511, 0, 0), (511, 0, 0), (2559, 0, 0), (7679, 0, 0), (15871, 0, 0), (32767, 0, 0), (65535, 0, 0), (131071, 0, 0), (262143, 0, 0), (524287, 0, 0), (524287, 0, 0), (524287, 0, 0), (3670015, 0, 0), (7864319, 1, 1), (16777215, 0, 0), (33554431, 0, 0), (67108863, 0, 0), (134217727, 0, 0), (268435455, 0, 0), (268435455, 0, 0), (805306367, 0, 0), (2147483647, 0, 0), (4294967295, 2, 2), (8589934591, 0, 0), (268435455, 0, 0), (268435455, 0, 0), (51808043007, 0, 0), (120527519743, 0, 0), (257966473215, 2, 3), (549755813887, 0, 0), (1099511627775, 0, 0)] (by kernel_rfl) (by kernel_rfl) (by kernel_rfl) (opsD_run 3 (l' := (opsAt g49p1).toList.drop 3) (eE := E7) (H' := (mkH [])) (hs := []) (by kernel_rfl) (opsD_env (eE := [(12, .bool true), (11, .bool true), (10, .int .i64 a2), (6, .int .i64 0), (0, .str a0), (1, .vec (a1).length 3 ((a1).flatMap e47)), (2, .int .i64 a2)]) (congrArg (fun z : Bool => ([(12, .bool z), (11, .bool z), (10, .int .i64 a2), (6, .int .i64 0), (0, .str a0), (1, .vec (a1).length 3 ((a1).flatMap e47)), (2, .int .i64 a2)] : Env)) hb4) (opsD_run 38 (l' := (opsAt g49p1).toList.drop 41) (eE := E8) (H' := (mkH [])) (hs := [(mkH []), (mkH []), (mkH [])]) (by kernel_rfl) (.nil)))) (by kernel_rfl) (by kernel_rfl) (by kernel_rfl) ?_
   refine oK [0, 1, 2, 50] (eE := [(0, .str a0), (1, .vec (a1).length 3 ((a1).flatMap e47)), (2, .int .i64 a2), (50, .bool true)]) (by kernel_rfl) ?_
   exact hj4 true
  ·refine ok_if (fun hb5 => ?_) (fun hb5 => ?_)
   ·let E7 : Env := [(12, .bool (decide (a2 < 1))), (11, .bool (decide (a2 < 1))), (10, .int .i64 a2), (6, .int .i64 0), (0, .str a0), (1, .vec (a1).length 3 ((a1).flatMap e47)), (2, .int .i64 a2)]
    let E9 : Env := [(18, .bool (decide ((a1.length : Int) ≤ a2))), (17, .bool (decide ((a1.length : Int) ≤ a2))), (16, .bool (decide ((a1.length : Int) ≤ a2))), (15, .int .i64 (a1.length : Int)), (14, .vec (a1).length 3 ((a1).flatMap e47)), (13, .int .i64 a2), (12, .bool false), (11, .bool false), (10, .int .i64 a2), (6, .int .i64 0), (0, .str a0), (1, .vec (a1).length 3 ((a1).flatMap e47)), (2, .int .i64 a2)]
    let E10 : Env := [(50, .bool true), (49, .tuple []), (48, .tuple []), (47, .tuple []), (46, .tuple []), (45, .tuple []), (44, .tuple []), (43, .tuple []), (42, .tuple []), (41, .tuple []), (40, .tuple []), (39, .tuple []), (38, .tuple []), (37, .bool true), (36, .bool true), (35, .tuple []), (34, .tuple []), (33, .tuple []), (32, .tuple []), (31, .tuple []), (30, .tuple []), (29, .tuple []), (28, .bool true), (27, .bool true), (26, .tuple []), (25, .tuple []), (24, .tuple []), (23, .tuple []), (22, .tuple []), (21, .tuple []), (20, .tuple []), (19, .tuple []), (18, .bool true), (17, .bool true), (16, .bool true), (15, .int .i64 (a1.length : Int)), (14, .vec (a1).length 3 ((a1).flatMap e47)), (13, .int .i64 a2), (12, .bool false), (11, .bool false), (10, .int .i64 a2), (6, .int .i64 0), (0, .str a0), (1, .vec (a1).length 3 ((a1).flatMap e47)), (2, .int .i64 a2)]
    refine ok_draw (p' := nav [0] g49p1) (eE := E10) (H' := (mkH [])) (hs := [(mkH []), (mkH []), (mkH [])]) [(0, 0, 0), (1, 0, 0), (3, 0, 0), (7, 0, 0), (7, 0, 0), (23, 0, 0), (63, 0, 0), (127, 0, 0), (255, 0, 0), (511, 0, 0), (511, 0, 0), (511, 0, 0), (2559, 0, 0), (7679, 0, 0), (15871, 0, 0), (32767, 0, 0), (65535, 0, 0), (131071, 0, 0), (262143, 0, 0), (524287, 0, 0), (524287, 0, 0), (524287, 0, 0), (3670015, 0, 0), (7864319, 1, 1), (16777215, 0, 0), (33554431, 0, 0), (67108863, 0, 0), (134217727, 0, 0), (268435455, 0, 0), (268435455, 0, 0), (805306367, 0, 0), (2147483647, 0, 0), (4294967295, 2, 2), (8589934591, 0, 0), (268435455, 0, 0), (268435455, 0, 0), (51808043007, 0, 0), (120527519743, 0, 0), (257966473215, 2, 3), (549755813887, 0, 0), (1099511627775, 0, 0)] (by kernel_rfl) (by kernel_rfl) (by kernel_rfl) (opsD_run 3 (l' := (opsAt g49p1).toList.drop 3) (eE := E7) (H' := (mkH [])) (hs := []) (by kernel_rfl) (opsD_env (eE := [(12, .bool false), (11, .bool false), (10, .int .i64 a2), (6, .int .i64 0), (0, .str a0), (1, .vec (a1).length 3 ((a1).flatMap e47)), (2, .int .i64 a2)]) (congrArg (fun z : Bool => ([(12, .bool z), (11, .bool z), (10, .int .i64 a2), (6, .int .i64 0), (0, .str a0), (1, .vec (a1).length 3 ((a1).flatMap e47)), (2, .int .i64 a2)] : Env)) hb4) (opsD_run 6 (l' := (opsAt g49p1).toList.drop 9) (eE := E9) (H' := (mkH [])) (hs := []) (by kernel_rfl) (opsD_env (eE := [(18, .bool true), (17, .bool true), (16, .bool true), (15, .int .i64 (a1.length : Int)), (14, .vec (a1).length 3 ((a1).flatMap e47)), (13, .int .i64 a2), (12, .bool false), (11, .bool false), (10, .int .i64 a2), (6, .int .i64 0), (0, .str a0), (1, .vec (a1).length 3 ((a1).flatMap e47)), (2, .int .i64 a2)]) (congrArg (fun z : Bool => ([(18, .bool z), (17, .bool z), (16, .bool z), (15, .int .i64 (a1.length : Int)), (14, .vec (a1).length 3 ((a1).flatMap e47)), (13, .int .i64 a2), (12, .bool false), (11, .bool false), (10, .int .i64 a2), (6, .int .i64 0), (0, .str a0), (1, .vec (a1).length 3 ((a1).flatMap e47)), (2, .int .i64 a2)] : Env)) hb5) (opsD_run 32 (l' := (opsAt g49p1).toList.drop 41) (eE := E10) (H' := (mkH [])) (hs := [(mkH []), (mkH []), (mkH [])]) (by kernel_rfl) (.nil)))))) (by kernel_rfl) (by kernel_rfl) (by kernel_rfl) ?_
    refine oK [0, 1, 2, 50] (eE := [(0, .str a0), (1, .vec (a1).length 3 ((a1).flatMap e47)), (2, .int .i64 a2), (50, .bool true)]) (by kernel_rfl) ?_
    exact hj4 true
   ·refine ok_bind (fun x0_13 hx0_13 => ?_)
    refine ok_bind (fun x0_15 hx0_15 => ?_)
    refine ok_if (fun hb6 => ?_) (fun hb6 => ?_)
    ·let E7 : Env := [(12, .bool (decide (a2 < 1))), (11, .bool (decide (a2 < 1))), (10, .int .i64 a2), (6, .int .i64 0), (0, .str a0), (1, .vec (a1).length 3 ((a1).flatMap e47)), (2, .int .i64 a2)]
     let E9 : Env := [(18, .bool (decide ((a1.length : Int) ≤ a2))), (17, .bool (decide ((a1.length : Int) ≤ a2))), (16, .bool (decide ((a1.length : Int) ≤ a2))), (15, .int .i64 (a1.length : Int)), (14, .vec (a1).length 3 ((a1).flatMap e47)), (13, .int .i64 a2), (12, .bool false), (11, .bool false), (10, .int .i64 a2), (6, .int .i64 0), (0, .str a0), (1, .vec (a1).length 3 ((a1).flatMap e47)), (2, .int .i64 a2)]
     let E11 : Env := [(22, .int .i64 (fW .i64 (a2 - 1))), (21, .int .i64 a2), (20, .vec (a1).length 3 ((a1).flatMap e47)), (19, .str a0), (18, .bool false), (17, .bool false), (16, .bool false), (15, .int .i64 (a1.length : Int)), (14, .vec (a1).length 3 ((a1).flatMap e47)), (13, .int .i64 a2), (12, .bool false), (11, .bool false), (10, .int .i64 a2), (6, .int .i64 0), (0, .str a0), (1, .vec (a1).length 3 ((a1).flatMap e47)), (2, .int .i64 a2)]
     let E12 : Env := ((28, .bool (!x0_15)) :: (27, .bool (!x0_15)) :: (26, .bool (!x0_15)) :: (25, .bool x0_15) :: (24, .agg [.int .i64 x0_13.f0, .str x0_13.f1, .int .i64 x0_13.f2]) :: (23, .vptr [.int .i64 x0_13.f0, .str x0_13.f1, .int .i64 x0_13.f2]) :: E11)
     let E13 : Env := [(50, .bool true), (49, .tuple []), (48, .tuple []), (47, .tuple []), (46, .tuple []), (45, .tuple []), (44, .tuple []), (43, .tuple []), (42, .tuple []), (41, .tuple []), (40, .tuple []), (39, .tuple []), (38, .tuple []), (37, .bool true), (36, .bool true), (35, .tuple []), (34, .tuple []), (33, .tuple []), (32, .tuple []), (31, .tuple []), (30, .tuple []), (29, .tuple []), (28, .bool true), (27, .bool true), (26, .bool true), (25, .bool x0_15), (24, .agg [.int .i64 x0_13.f0, .str x0_13.f1, .int .i64 x0_13.f2]), (23, .vptr [.int .i64 x0_13.f0, .str x0_13.f1, .int .i64 x0_13.f2]), (22, .int .i64 (fW .i64 (a2 - 1))), (21, .int .i64 a2), (20, .vec (a1).length 3 ((a1).flatMap e47)), (19, .str a0), (18, .bool false), (17, .bool false), (16, .bool false), (15, .int .i64 (a1.length : Int)), (14, .vec (a1).length 3 ((a1).flatMap e47)), (13, .int .i64 a2), (12, .bool false), (11, .bool false), (10, .int .i64 a2), (6, .int .i64 0), (0, .str a0), (1, .vec (a1).length 3 ((a1).flatMap e47)), (2, .int .i64 a2)]
     refine ok_draw (p' := nav [0] g49p1) (eE := E13) (H' := (mkH [])) (hs := [(mkH []), (mkH []), (mkH [])]) [(0, 0, 0), (1, 0, 0), (3, 0, 0), (7, 0, 0), (7, 0, 0), (23, 0, 0), (63, 0, 0), (127, 0, 0), (255, 0, 0), (511, 0, 0), (511, 0, 0), (511, 0, 0), (2559, 0, 0), (7679, 0, 0), (15871, 0, 0), (32767, 0, 0), (65535, 0, 0), (131071, 0, 0), (262143, 0, 0), (524287, 0, 0), (524287, 0, 0), (524287, 0, 0), (3670015, 0, 0), (7864319, 1, 1), (16777215, 0, 0), (33554431, 0, 0), (67108863, 0, 0), (134217727, 0, 0), (268435455, 0, 0), (268435455, 0, 0), (805306367, 0, 0), (2147483647, 0, 0), (4294967295, 2, 2), (8589934591, 0, 0), (268435455, 0, 0), (268435455, 0, 0), (51808043007, 0, 0), (120527519743, 0, 0), (257966473215, 2, 3), (549755813887, 0, 0), (1099511627775, 0, 0)] (by kernel_rfl) (by kernel_rfl) (by kernel_rfl) (opsD_run 3 (l' := (opsAt g49p1).toList.drop 3) (eE := E7) (H' := (mkH [])) (hs := []) (by kernel_rfl) (opsD_env (eE := [(12, .bool false), (11, .bool false), (10, .int .i64 a2), (6, .int .i64 0), (0, .str a0), (1, .vec (a1).length 3 ((a1).flatMap e47)), (2, .int .i64 a2)]) (congrArg (fun z : Bool => ([(12, .bool z), (11, .bool z), (10, .int .i64 a2), (6, .int .i64 0), (0, .str a0), (1, .vec (a1).length 3 ((a1).flatMap e47)), (2, .int .i64 a2)] : Env)) hb4) (opsD_run 6 (l' := (opsAt g49p1).toList.drop 9) (eE := E9) (H' := (mkH [])) (hs := []) (by kernel_rfl) (opsD_env (eE := [(18, .bool false), (17, .bool false), (16, .bool false), (15, .int .i64 (a1.length : Int)), (14, .vec (a1).length 3 ((a1).flatMap e47)), (13, .int .i64 a2), (12, .bool false), (11, .bool false), (10, .int .i64 a2), (6, .int .i64 0), (0, .str a0), (1, .vec (a1).length 3 ((a1).flatMap e47)), (2, .int .i64 a2)]) (congrArg (fun z : Bool => ([(18, .bool z), (17, .bool z), (16, .bool z), (15, .int .i64 (a1.length : Int)), (14, .vec (a1).length 3 ((a1).flatMap e47)), (13, .int .i64 a2), (12, .bool false), (11, .bool false), (10, .int .i64 a2), (6, .int .i64 0), (0, .str a0), (1, .vec (a1).length 3 ((a1).flatMap e47)), (2, .int .i64 a2)] : Env)) hb5) (opsD_run 4 (l' := (opsAt g49p1).toList.drop 13) (eE := E11) (H' := (mkH [])) (hs := []) (by kernel_rfl) (opsD_chk (l' := (opsAt g49p1).toList.drop 14) (eE := ((23, .vptr [.int .i64 x0_13.f0, .str x0_13.f1, .int .i64 x0_13.f2]) :: E11)) (hs := []) (x := x0_13) (fun (x0_13 : S46) => (.vptr [.int .i64 x0_13.f0, .str x0_13.f1, .int .i64 x0_13.f2], (mkH []))) (vidxH (sz := 3) e47_len (by kernel_rfl)) hx0_13 (by kernel_rfl) (opsD_run 1 (l' := (opsAt g49p1).toList.drop 15) (eE := ((24, .agg [.int .i64 x0_13.f0, .str x0_13.f1, .int .i64 x0_13.f2]) :: (23, .vptr [.int .i64 x0_13.f0, .str x0_13.f1, .int .i64 x0_13.f2]) :: E11)) (H' := (mkH [])) (hs := []) (by kernel_rfl) (opsD_call (l' := (opsAt g49p1).toList.drop 16) (eE := ((25, .bool x0_15) :: (24, .agg [.int .i64 x0_13.f0, .str x0_13.f1, .int .i64 x0_13.f2]) :: (23, .vptr [.int .i64 x0_13.f0, .str x0_13.f1, .int .i64 x0_13.f2]) :: E11)) (hs := [(mkH [])]) (fi := 66) (args := [.str a0, .agg [.int .i64 x0_13.f0, .str x0_13.f1, .int .i64 x0_13.f2]]) (v := .bool x0_15) (by kernel_rfl) (by kernel_rfl) (by kernel_rfl) (g66_ok k a0 (⟨x0_13.f0, x0_13.f1, x0_13.f2⟩ : S46) x0_15 hx0_15) (by kernel_rfl) (opsD_run 3 (l' := (opsAt g49p1).toList.drop 19) (eE := E12) (H' := (mkH [])) (hs := []) (by kernel_rfl) (opsD_env (eE := [(28, .bool true), (27, .bool true), (26, .bool true), (25, .bool x0_15), (24, .agg [.int .i64 x0_13.f0, .str x0_13.f1, .int .i64 x0_13.f2]), (23, .vptr [.int .i64 x0_13.f0, .str x0_13.f1, .int .i64 x0_13.f2]), (22, .int .i64 (fW .i64 (a2 - 1))), (21, .int .i64 a2), (20, .vec (a1).length 3 ((a1).flatMap e47)), (19, .str a0), (18, .bool false), (17, .bool false), (16, .bool false), (15, .int .i64 (a1.length : Int)), (14, .vec (a1).length 3 ((a1).flatMap e47)), (13, .int .i64 a2), (12, .bool false), (11, .bool false), (10, .int .i64 a2), (6, .int .i64 0), (0, .str a0), (1, .vec (a1).length 3 ((a1).flatMap e47)), (2, .int .i64 a2)]) (congrArg (fun z : Bool => ([(28, .bool z), (27, .bool z), (26, .bool z), (25, .bool x0_15), (24, .agg [.int .i64 x0_13.f0, .str x0_13.f1, .int .i64 x0_13.f2]), (23, .vptr [.int .i64 x0_13.f0, .str x0_13.f1, .int .i64 x0_13.f2]), (22, .int .i64 (fW .i64 (a2 - 1))), (21, .int .i64 a2), (20, .vec (a1).length 3 ((a1).flatMap e47)), (19, .str a0), (18, .bool false), (17, .bool false), (16, .bool false), (15, .int .i64 (a1.length : Int)), (14, .vec (a1).length 3 ((a1).flatMap e47)), (13, .int .i64 a2), (12, .bool false), (11, .bool false), (10, .int .i64 a2), (6, .int .i64 0), (0, .str a0), (1, .vec (a1).length 3 ((a1).flatMap e47)), (2, .int .i64 a2)] : Env)) hb6) (opsD_run 22 (l' := (opsAt g49p1).toList.drop 41) (eE := E13) (H' := (mkH [])) (hs := [(mkH []), (mkH [])]) (by kernel_rfl) (.nil)))))))))))) (by kernel_rfl) (by kernel_rfl) (by kernel_rfl) ?_
     refine oK [0, 1, 2, 50] (eE := [(0, .str a0), (1, .vec (a1).length 3 ((a1).flatMap e47)), (2, .int .i64 a2), (50, .bool true)]) (by kernel_rfl) ?_
     exact hj4 true
    ·refine ok_bind (fun x0_22 hx0_22 => ?_)
     refine ok_bind (fun x0_24 hx0_24 => ?_)
     refine ok_if (fun hb7 => ?_) (fun hb7 => ?_)
     ·let E7 : Env := [(12, .bool (decide (a2 < 1))), (11, .bool (decide (a2 < 1))), (10, .int .i64 a2), (6, .int .i64 0), (0, .str a0), (1, .vec (a1).length 3 ((a1).flatMap e47)), (2, .int .i64 a2)]
      let E9 : Env := [(18, .bool (decide ((a1.length : Int) ≤ a2))), (17, .bool (decide ((a1.length : Int) ≤ a2))), (16, .bool (decide ((a1.length : Int) ≤ a2))), (15, .int .i64 (a1.length : Int)), (14, .vec (a1).length 3 ((a1).flatMap e47)), (13, .int .i64 a2), (12, .bool false), (11, .bool false), (10, .int .i64 a2), (6, .int .i64 0), (0, .str a0), (1, .vec (a1).length 3 ((a1).flatMap e47)), (2, .int .i64 a2)]
      let E11 : Env := [(22, .int .i64 (fW .i64 (a2 - 1))), (21, .int .i64 a2), (20, .vec (a1).length 3 ((a1).flatMap e47)), (19, .str a0), (18, .bool false), (17, .bool false), (16, .bool false), (15, .int .i64 (a1.length : Int)), (14, .vec (a1).length 3 ((a1).flatMap e47)), (13, .int .i64 a2), (12, .bool false), (11, .bool false), (10, .int .i64 a2), (6, .int .i64 0), (0, .str a0), (1, .vec (a1).length 3 ((a1).flatMap e47)), (2, .int .i64 a2)]
      let E12 : Env := ((28, .bool (!x0_15)) :: (27, .bool (!x0_15)) :: (26, .bool (!x0_15)) :: (25, .bool x0_15) :: (24, .agg [.int .i64 x0_13.f0, .str x0_13.f1, .int .i64 x0_13.f2]) :: (23, .vptr [.int .i64 x0_13.f0, .str x0_13.f1, .int .i64 x0_13.f2]) :: E11)
      let E14 : Env := [(31, .int .i64 a2), (30, .vec (a1).length 3 ((a1).flatMap e47)), (29, .str a0), (28, .bool false), (27, .bool false), (26, .bool false), (25, .bool x0_15), (24, .agg [.int .i64 x0_13.f0, .str x0_13.f1, .int .i64 x0_13.f2]), (23, .vptr [.int .i64 x0_13.f0, .str x0_13.f1, .int .i64 x0_13.f2]), (22, .int .i64 (fW .i64 (a2 - 1))), (21, .int .i64 a2), (20, .vec (a1).length 3 ((a1).flatMap e47)), (19, .str a0), (18, .bool false), (17, .bool false), (16, .bool false), (15, .int .i64 (a1.length : Int)), (14, .vec (a1).length 3 ((a1).flatMap e47)), (13, .int .i64 a2), (12, .bool false), (11, .bool false), (10, .int .i64 a2), (6, .int .i64 0), (0, .str a0), (1, .vec (a1).length 3 ((a1).flatMap e47)), (2, .int .i64 a2)]
      let E15 : Env := ((37, .bool (!x0_24)) :: (36, .bool (!x0_24)) :: (35, .bool (!x0_24)) :: (34, .bool x0_24) :: (33, .agg [.int .i64 x0_22.f0, .str x0_22.f1, .int .i64 x0_22.f2]) :: (32, .vptr [.int .i64 x0_22.f0, .str x0_22.f1, .int .i64 x0_22.f2]) :: E14)
      let E16 : Env := [(50, .bool true), (49, .tuple []), (48, .tuple []), (47, .tuple []), (46, .tuple []), (45, .tuple []), (44, .tuple []), (43, .tuple []), (42, .tuple []), (41, .tuple []), (40, .tuple []), (39, .tuple []), (38, .tuple []), (37, .bool true), (36, .bool true), (35, .bool true), (34, .bool x0_24), (33, .agg [.int .i64 x0_22.f0, .str x0_22.f1, .int .i64 x0_22.f2]), (32, .vptr [.int .i64 x0_22.f0, .str x0_22.f1, .int .i64 x0_22.f2]), (31, .int .i64 a2), (30, .vec (a1).length 3 ((a1).flatMap e47)), (29, .str a0), (28, .bool false), (27, .bool false), (26, .bool false), (25, .bool x0_15), (24, .agg [.int .i64 x0_13.f0, .str x0_13.f1, .int .i64 x0_13.f2]), (23, .vptr [.int .i64 x0_13.f0, .str x0_13.f1, .int .i64 x0_13.f2]), (22, .int .i64 (fW .i64 (a2 - 1))), (21, .int .i64 a2), (20, .vec (a1).length 3 ((a1).flatMap e47)), (19, .str a0), (18, .bool false), (17, .bool false), (16, .bool false), (15, .int .i64 (a1.length : Int)), (14, .vec (a1).length 3 ((a1).flatMap e47)), (13, .int .i64 a2), (12, .bool false), (11, .bool false), (10, .int .i64 a2), (6, .int .i64 0), (0, .str a0), (1, .vec (a1).length 3 ((a1).flatMap e47)), (2, .int .i64 a2)]
      refine ok_draw (p' := nav [0] g49p1) (eE := E16) (H' := (mkH [])) (hs := [(mkH []), (mkH []), (mkH [])]) [(0, 0, 0), (1, 0, 0), (3, 0, 0), (7, 0, 0), (7, 0, 0), (23, 0, 0), (63, 0, 0), (127, 0, 0), (255, 0, 0), (511, 0, 0), (511, 0, 0), (511, 0, 0), (2559, 0, 0), (7679, 0, 0), (15871, 0, 0), (32767, 0, 0), (65535, 0, 0), (131071, 0, 0), (262143, 0, 0), (524287, 0, 0), (524287, 0, 0), (524287, 0, 0), (3670015, 0, 0), (7864319, 1, 1), (16777215, 0, 0), (33554431, 0, 0), (67108863, 0, 0), (134217727, 0, 0), (268435455, 0, 0), (268435455, 0, 0), (805306367, 0, 0), (2147483647, 0, 0), (4294967295, 2, 2), (8589934591, 0, 0), (268435455, 0, 0), (268435455, 0, 0), (51808043007, 0, 0), (120527519743, 0, 0), (257966473215, 2, 3), (549755813887, 0, 0), (1099511627775, 0, 0)] (by kernel_rfl) (by kernel_rfl) (by kernel_rfl) (opsD_run 3 (l' := (opsAt g49p1).toList.drop 3) (eE := E7) (H' := (mkH [])) (hs := []) (by kernel_rfl) (opsD_env (eE := [(12, .bool false), (11, .bool false), (10, .int .i64 a2), (6, .int .i64 0), (0, .str a0), (1, .vec (a1).length 3 ((a1).flatMap e47)), (2, .int .i64 a2)]) (congrArg (fun z : Bool => ([(12, .bool z), (11, .bool z), (10, .int .i64 a2), (6, .int .i64 0), (0, .str a0), (1, .vec (a1).length 3 ((a1).flatMap e47)), (2, .int .i64 a2)] : Env)) hb4) (opsD_run 6 (l' := (opsAt g49p1).toList.drop 9) (eE := E9) (H' := (mkH [])) (hs := []) (by kernel_rfl) (opsD_env (eE := [(18, .bool false), (17, .bool false), (16, .bool false), (15, .int .i64 (a1.length : Int)), (14, .vec (a1).length 3 ((a1).flatMap e47)), (13, .int .i64 a2), (12, .bool false), (11, .bool false), (10, .int .i64 a2), (6, .int .i64 0), (0, .str a0), (1, .vec (a1).length 3 ((a1).flatMap e47)), (2, .int .i64 a2)]) (congrArg (fun z : Bool => ([(18, .bool z), (17, .bool z), (16, .bool z), (15, .int .i64 (a1.length : Int)), (14, .vec (a1).length 3 ((a1).flatMap e47)), (13, .int .i64 a2), (12, .bool false), (11, .bool false), (10, .int .i64 a2), (6, .int .i64 0), (0, .str a0), (1, .vec (a1).length 3 ((a1).flatMap e47)), (2, .int .i64 a2)] : Env)) hb5) (opsD_run 4 (l' := (opsAt g49p1).toList.drop 13) (eE := E11) (H' := (mkH [])) (hs := []) (by kernel_rfl) (opsD_chk (l' := (opsAt g49p1).toList.drop 14) (eE := ((23, .vptr [.int .i64 x0_13.f0, .str x0_13.f1, .int .i64 x0_13.f2]) :: E11)) (hs := []) (x := x0_13) (fun (x0_13 : S46) => (.vptr [.int .i64 x0_13.f0, .str x0_13.f1, .int .i64 x0_13.f2], (mkH []))) (vidxH (sz := 3) e47_len (by kernel_rfl)) hx0_13 (by kernel_rfl) (opsD_run 1 (l' := (opsAt g49p1).toList.drop 15) (eE := ((24, .agg [.int .i64 x0_13.f0, .str x0_13.f1, .int .i64 x0_13.f2]) :: (23, .vptr [.int .i64 x0_13.f0, .str x0_13.f1, .int .i64 x0_13.f2]) :: E11)) (H' := (mkH [])) (hs := []) (by kernel_rfl) (opsD_call (l' := (opsAt g49p1).toList.drop 16) (eE := ((25, .bool x0_15) :: (24, .agg [.int .i64 x0_13.f0, .str x0_13.f1, .int .i64 x0_13.f2]) :: (23, .vptr [.int .i64 x0_13.f0, .str x0_13.f1, .int .i64 x0_13.f2]) :: E11)) (hs := [(mkH [])]) (fi := 66) (args := [.str a0, .agg [.int .i64 x0_13.f0, .str x0_13.f1, .int .i64 x0_13.f2]]) (v := .bool x0_15) (by kernel_rfl) (by kernel_rfl) (by kernel_rfl) (g66_ok k a0 (⟨x0_13.f0, x0_13.f1, x0_13.f2⟩ : S46) x0_15 hx0_15) (by kernel_rfl) (opsD_run 3 (l' := (opsAt g49p1).toList.drop 19) (eE := E12) (H' := (mkH [])) (hs := []) (by kernel_rfl) (opsD_env (eE := [(28, .bool false), (27, .bool false), (26, .bool false), (25, .bool x0_15), (24, .agg [.int .i64 x0_13.f0, .str x0_13.f1, .int .i64 x0_13.f2]), (23, .vptr [.int .i64 x0_13.f0, .str x0_13.f1, .int .i64 x0_13.f2]), (22, .int .i64 (fW .i64 (a2 - 1))), (21, .int .i64 a2), (20, .vec (a1).length 3 ((a1).flatMap e47)), (19, .str a0), (18, .bool false), (17, .bool false), (16, .bool false), (15, .int .i64 (a1.length : Int)), (14, .vec (a1).length 3 ((a1).flatMap e47)), (13, .int .i64 a2), (12, .bool false), (11, .bool false), (10, .int .i64 a2), (6, .int .i64 0), (0, .str a0), (1, .vec (a1).length 3 ((a1).flatMap e47)), (2, .int .i64 a2)]) (congrArg (fun z : Bool => ([(28, .bool z), (27, .bool z), (26, .bool z), (25, .bool x0_15), (24, .agg [.int .i64 x0_13.f0, .str x0_13.f1, .int .i64 x0_13.f2]), (23, .vptr [.int .i64 x0_13.f0, .str x0_13.f1, .int .i64 x0_13.f2]), (22, .int .i64 (fW .i64 (a2 - 1))), (21, .int .i64 a2), (20, .vec (a1).length 3 ((a1).flatMap e47)), (19, .str a0), (18, .bool false), (17, .bool false), (16, .bool false), (15, .int .i64 (a1.length : Int)), (14, .vec (a1).length 3 ((a1).flatMap e47)), (13, .int .i64 a2), (12, .bool false), (11, .bool false), (10, .int .i64 a2), (6, .int .i64 0), (0, .str a0), (1, .vec (a1).length 3 ((a1).flatMap e47)), (2, .int .i64 a2)] : Env)) hb6) (opsD_run 3 (l' := (opsAt g49p1).toList.drop 22) (eE := E14) (H' := (mkH [])) (hs := []) (by kernel_rfl) (opsD_chk (l' := (opsAt g49p1).toList.drop 23) (eE := ((32, .vptr [.int .i64 x0_22.f0, .str x0_22.f1, .int .i64 x0_22.f2]) :: E14)) (hs := []) (x := x0_22) (fun (x0_22 : S46) => (.vptr [.int .i64 x0_22.f0, .str x0_22.f1, .int .i64 x0_22.f2], (mkH []))) (vidxH (sz := 3) e47_len (by kernel_rfl)) hx0_22 (by kernel_rfl) (opsD_run 1 (l' := (opsAt g49p1).toList.drop 24) (eE := ((33, .agg [.int .i64 x0_22.f0, .str x0_22.f1, .int .i64 x0_22.f2]) :: (32, .vptr [.int .i64 x0_22.f0, .str x0_22.f1, .int .i64 x0_22.f2]) :: E14)) (H' := (mkH [])) (hs := []) (by kernel_rfl) (opsD_call (l' := (opsAt g49p1).toList.drop 25) (eE := ((34, .bool x0_24) :: (33, .agg [.int .i64 x0_22.f0, .str x0_22.f1, .int .i64 x0_22.f2]) :: (32, .vptr [.int .i64 x0_22.f0, .str x0_22.f1, .int .i64 x0_22.f2]) :: E14)) (hs := [(mkH [])]) (fi := 66) (args := [.str a0, .agg [.int .i64 x0_22.f0, .str x0_22.f1, .int .i64 x0_22.f2]]) (v := .bool x0_24) (by kernel_rfl) (by kernel_rfl) (by kernel_rfl) (g66_ok k a0 (⟨x0_22.f0, x0_22.f1, x0_22.f2⟩ : S46) x0_24 hx0_24) (by kernel_rfl) (opsD_run 3 (l' := (opsAt g49p1).toList.drop 28) (eE := E15) (H' := (mkH [])) (hs := []) (by kernel_rfl) (opsD_env (eE := [(37, .bool true), (36, .bool true), (35, .bool true), (34, .bool x0_24), (33, .agg [.int .i64 x0_22.f0, .str x0_22.f1, .int .i64 x0_22.f2]), (32, .vptr [.int .i64 x0_22.f0, .str x0_22.f1, .int .i64 x0_22.f2]), (31, .int .i64 a2), (30, .vec (a1).length 3 ((a1).flatMap e47)), (29, .str a0), (28, .bool false), (27, .bool false), (26, .bool false), (25, .bool x0_15), (24, .agg [.int .i64 x0_13.f0, .str x0_13.f1, .int .i64 x0_13.f2]), (23, .vptr [.int .i64 x0_13.f0, .str x0_13.f1, .int .i64 x0_13.f2]), (22, .int .i64 (fW .i64 (a2 - 1))), (21, .int .i64 a2), (20, .vec (a1).length 3 ((a1).flatMap e47)), (19, .str a0), (18, .bool false), (17, .bool false), (16, .bool false), (15, .int .i64 (a1.length : Int)), (14, .vec (a1).length 3 ((a1).flatMap e47)), (13, .int .i64 a2), (12, .bool false), (11, .bool false), (10, .int .i64 a2), (6, .int .i64 0), (0, .str a0), (1, .vec (a1).length 3 ((a1).flatMap e47)), (2, .int .i64 a2)]) (congrArg (fun z : Bool => ([(37, .bool z), (36, .bool z), (35, .bool z), (34, .bool x0_24), (33, .agg [.int .i64 x0_22.f0, .str x0_22.f1, .int .i64 x0_22.f2]), (32, .vptr [.int .i64 x0_22.f0, .str x0_22.f1, .int .i64 x0_22.f2]), (31, .int .i64 a2), (30, .vec (a1).length 3 ((a1).flatMap e47)), (29, .str a0), (28, .bool false), (27, .bool false), (26, .bool false), (25, .bool x0_15), (24, .agg [.int .i64 x0_13.f0, .str x0_13.f1, .int .i64 x0_13.f2]), (23, .vptr [.int .i64 x0_13.f0, .str x0_13.f1, .int .i64 x0_13.f2]), (22, .int .i64 (fW .i64 (a2 - 1))), (21, .int .i64 a2), (20, .vec (a1).length 3 ((a1).flatMap e47)), (19, .str a0), (18, .bool false), (17, .bool false), (16, .bool false), (15, .int .i64 (a1.length : Int)), (14, .vec (a1).length 3 ((a1).flatMap e47)), (13, .int .i64 a2), (12, .bool false), (11, .bool false), (10, .int .i64 a2), (6, .int .i64 0), (0, .str a0), (1, .vec (a1).length 3 ((a1).flatMap e47)), (2, .int .i64 a2)] : Env)) hb7) (opsD_run 13 (l' := (opsAt g49p1).toList.drop 41) (eE := E16) (H' := (mkH [])) (hs := [(mkH [])]) (by kernel_rfl) (.nil)))))))))))))))))) (by kernel_rfl) (by kernel_rfl) (by kernel_rfl) ?_
      refine oK [0, 1, 2, 50] (eE := [(0, .str a0), (1, .vec (a1).length 3 ((a1).flatMap e47)), (2, .int .i64 a2), (50, .bool true)]) (by kernel_rfl) ?_
      exact hj4 true
     ·refine ok_bind (fun x0_31 hx0_31 => ?_)
      refine ok_bind (fun x0_33 hx0_33 => ?_)
      refine ok_bind (fun x0_36 hx0_36 => ?_)
      let E7 : Env := [(12, .bool (decide (a2 < 1))), (11, .bool (decide (a2 < 1))), (10, .int .i64 a2), (6, .int .i64 0), (0, .str a0), (1, .vec (a1).length 3 ((a1).flatMap e47)), (2, .int .i64 a2)]
      let E9 : Env := [(18, .bool (decide ((a1.length : Int) ≤ a2))), (17, .bool (decide ((a1.length : Int) ≤ a2))), (16, .bool (decide ((a1.length : Int) ≤ a2))), (15, .int .i64 (a1.length : Int)), (14, .vec (a1).length 3 ((a1).flatMap e47)), (13, .int .i64 a2), (12, .bool false), (11, .bool false), (10, .int .i64 a2), (6, .int .i64 0), (0, .str a0), (1, .vec (a1).length 3 ((a1).flatMap e47)), (2, .int .i64 a2)]
      let E11 : Env := [(22, .int .i64 (fW .i64 (a2 - 1))), (21, .int .i64 a2), (20, .vec (a1).length 3 ((a1).flatMap e47)), (19, .str a0), (18, .bool false), (17, .bool false), (16, .bool false), (15, .int .i64 (a1.length : Int)), (14, .vec (a1).length 3 ((a1).flatMap e47)), (13, .int .i64 a2), (12, .bool false), (11, .bool false), (10, .int .i64 a2), (6, .int .i64 0), (0, .str a0), (1, .vec (a1).length 3 ((a1).flatMap e47)), (2, .int .i64 a2)]
      let E12 : Env := ((28, .bool (!x0_15)) :: (27, .bool (!x0_15)) :: (26, .bool (!x0_15)) :: (25, .bool x0_15) :: (24, .agg [.int .i64 x0_13.f0, .str x0_13.f1, .int .i64 x0_13.f2]) :: (23, .vptr [.int .i64 x0_13.f0, .str x0_13.f1, .int .i64 x0_13.f2]) :: E11)
      let E14 : Env := [(31, .int .i64 a2), (30, .vec (a1).length 3 ((a1).flatMap e47)), (29, .str a0), (28, .bool false), (27, .bool false), (26, .bool false), (25, .bool x0_15), (24, .agg [.int .i64 x0_13.f0, .str x0_13.f1, .int .i64 x0_13.f2]), (23, .vptr [.int .i64 x0_13.f0, .str x0_13.f1, .int .i64 x0_13.f2]), (22, .int .i64 (fW .i64 (a2 - 1))), (21, .int .i64 a2), (20, .vec (a1).length 3 ((a1).flatMap e47)), (19, .str a0), (18, .bool false), (17, .bool false), (16, .bool false), (15, .int .i64 (a1.length : Int)), (14, .vec (a1).length 3 ((a1).flatMap e47)), (13, .int .i64 a2), (12, .bool false), (11, .bool false), (10, .int .i64 a2), (6, .int .i64 0), (0, .str a0), (1, .vec (a1).length 3 ((a1).flatMap e47)), (2, .int .i64 a2)]
      let E15 : Env := ((37, .bool (!x0_24)) :: (36, .bool (!x0_24)) :: (35, .bool (!x0_24)) :: (34, .bool x0_24) :: (33, .agg [.int .i64 x0_22.f0, .str x0_22.f1, .int .i64 x0_22.f2]) :: (32, .vptr [.int .i64 x0_22.f0, .str x0_22.f1, .int .i64 x0_22.f2]) :: E14)
      let E17 : Env := [(40, .int .i64 (fW .i64 (a2 - 1))), (39, .int .i64 a2), (38, .vec (a1).length 3 ((a1).flatMap e47)), (37, .bool false), (36, .bool false), (35, .bool false), (34, .bool x0_24), (33, .agg [.int .i64 x0_22.f0, .str x0_22.f1, .int .i64 x0_22.f2]), (32, .vptr [.int .i64 x0_22.f0, .str x0_22.f1, .int .i64 x0_22.f2]), (31, .int .i64 a2), (30, .vec (a1).length 3 ((a1).flatMap e47)), (29, .str a0), (28, .bool false), (27, .bool false), (26, .bool false), (25, .bool x0_15), (24, .agg [.int .i64 x0_13.f0, .str x0_13.f1, .int .i64 x0_13.f2]), (23, .vptr [.int .i64 x0_13.f0, .str x0_13.f1, .int .i64 x0_13.f2]), (22, .int .i64 (fW .i64 (a2 - 1))), (21, .int .i64 a2), (20, .vec (a1).length 3 ((a1).flatMap e47)), (19, .str a0), (18, .bool false), (17, .bool false), (16, .bool false), (15, .int .i64 (a1.length : Int)), (14, .vec (a1).length 3 ((a1).flatMap e47)), (13, .int .i64 a2), (12, .bool false), (11, .bool false), (10, .int .i64 a2), (6, .int .i64 0), (0, .str a0), (1, .vec (a1).length 3 ((a1).flatMap e47)), (2, .int .i64 a2)]
      let E18 : Env := ((45, .int .i64 a2) :: (44, .vec (a1).length 3 ((a1).flatMap e47)) :: (43, .int .i64 x0_33) :: (42, .agg [.int .i64 x0_31.f0, .str x0_31.f1, .int .i64 x0_31.f2]) :: (41, .vptr [.int .i64 x0_31.f0, .str x0_31.f1, .int .i64 x0_31.f2]) :: E17)
      let E19 : Env := ((50, .bool (decide (x0_36.f2 < x0_33))) :: (49, .bool (decide (x0_36.f2 < x0_33))) :: (48, .int .i64 x0_36.f2) :: (47, .vptr [.int .i64 x0_36.f2]) :: (46, .vptr [.int .i64 x0_36.f0, .str x0_36.f1, .int .i64 x0_36.f2]) :: E18)
      refine ok_draw (p' := nav [0] g49p1) (eE := E19) (H' := (mkH [])) (hs := [(mkH []), (mkH []), (mkH [])]) [(0, 0, 0), (1, 0, 0), (3, 0, 0), (7, 0, 0), (7, 0, 0), (23, 0, 0), (63, 0, 0), (127, 0, 0), (255, 0, 0), (511, 0, 0), (511, 0, 0), (511, 0, 0), (2559, 0, 0), (7679, 0, 0), (15871, 0, 0), (32767, 0, 0), (65535, 0, 0), (131071, 0, 0), (262143, 0, 0), (524287, 0, 0), (524287, 0, 0), (524287, 0, 0), (3670015, 0, 0), (7864319, 1, 1), (16777215, 0, 0), (33554431, 0, 0), (67108863, 0, 0), (134217727, 0, 0), (268435455, 0, 0), (268435455, 0, 0), (805306367, 0, 0), (2147483647, 0, 0), (4294967295, 2, 2), (8589934591, 0, 0), (268435455, 0, 0), (268435455, 0, 0), (51808043007, 0, 0), (120527519743, 0, 0), (257966473215, 2, 3), (549755813887, 0, 0), (1099511627775, 0, 0)] (by kernel_rfl) (by kernel_rfl) (by kernel_rfl) (opsD_run 3 (l' := (opsAt g49p1).toList.drop 3) (eE := E7) (H' := (mkH [])) (hs := []) (by kernel_rfl) (opsD_env (eE := [(12, .bool false), (11, .bool false), (10, .int .i64 a2), (6, .int .i64 0), (0, .str a0), (1, .vec (a1).length 3 ((a1).flatMap e47)), (2, .int .i64 a2)]) (congrArg (fun z : Bool => ([(12, .bool z), (11, .bool z), (10, .int .i64 a2), (6, .int .i64 0), (0, .str a0), (1, .vec (a1).length 3 ((a1).flatMap e47)), (2, .int .i64 a2)] : Env)) hb4) (opsD_run 6 (l' := (opsAt g49p1).toList.drop 9) (eE := E9) (H' := (mkH [])) (hs := []) (by kernel_rfl) (opsD_env (eE := [(18, .bool false), (17, .bool false), (16, .bool false), (15, .int .i64 (a1.length : Int)), (14, .vec (a1).length 3 ((a1).flatMap e47)), (13, .int .i64 a2), (12, .bool false), (11, .bool false), (10, .int .i64 a2), (6, .int .i64 0), (0, .str a0), (1, .vec (a1).length 3 ((a1).flatMap e47)), (2, .int .i64 a2)]) (congrArg (fun z : Bool => ([(18, .bool z), (17, .bool z), (16, .bool z), (15, .int .i64 (a1.length : Int)), (14, .vec (a1).length 3 ((a1).flatMap e47)), (13, .int .i64 a2), (12, .bool false), (11, .bool false), (10, .int .i64 a2), (6, .int .i64 0), (0, .str a0), (1, .vec (a1).length 3 ((a1).flatMap e47)), (2, .int .i64 a2)] : Env)) hb5) (opsD_run 4 (l' := (opsAt g49p1).toList.drop 13) (eE := E11) (H' := (mkH [])) (hs := []) (by kernel_rfl) (opsD_chk (l' := (opsAt g49p1).toList.drop 14) (eE := ((23, .vptr [.int .i64 x0_13.f0, .str x0_13.f1, .int .i64 x0_13.f2]) :: E11)) (hs := []) (x := x0_13) (fun (x0_13 : S46) => (.vptr [.int .i64 x0_13.f0, .str x0_13.f1, .int .i64 x0_13.f2], (mkH []))) (vidxH (sz := 3) e47_len (by kernel_rfl)) hx0_13 (by kernel_rfl) (opsD_run 1 (l' := (opsAt g49p1).toList.drop 15) (eE := ((24, .agg [.int .i64 x0_13.f0, .str x0_13.f1, .int .i64 x0_13.f2]) :: (23, .vptr [.int .i64 x0_13.f0, .str x0_13.f1, .int .i64 x0_13.f2]) :: E11)) (H' := (mkH [])) (hs := []) (by kernel_rfl) (opsD_call (l' := (opsAt g49p1).toList.drop 16) (eE := ((25, .bool x0_15) :: (24, .agg [.int .i64 x0_13.f0, .str x0_13.f1, .int .i64 x0_13.f2]) :: (23, .vptr [.int .i64 x0_13.f0, .str x0_13.f1, .int .i64 x0_13.f2]) :: E11)) (hs := [(mkH [])]) (fi := 66) (args := [.str a0, .agg [.int .i64 x0_13.f0, .str x0_13.f1, .int .i64 x0_13.f2]]) (v := .bool x0_15) (by kernel_rfl) (by kernel_rfl) (by kernel_rfl) (g66_ok k a0 (⟨x0_13.f0, x0_13.f1, x0_13.f2⟩ : S46) x0_15 hx0_15) (by kernel_rfl) (opsD_run 3 (l' := (opsAt g49p1).toList.drop 19) (eE := E12) (H' := (mkH [])) (hs := []) (by kernel_rfl) (opsD_env (eE := [(28, .bool false), (27, .bool false), (26, .bool false), (25, .bool x0_15), (24, .agg [.int .i64 x0_13.f0, .str x0_13.f1, .int .i64 x0_13.f2]), (23, .vptr [.int .i64 x0_13.f0, .str x0_13.f1, .int .i64 x0_13.f2]), (22, .int .i64 (fW .i64 (a2 - 1))), (21, .int .i64 a2), (20, .vec (a1).length 3 ((a1).flatMap e47)), (19, .str a0), (18, .bool false), (17, .bool false), (16, .bool false), (15, .int .i64 (a1.length : Int)), (14, .vec (a1).length 3 ((a1).flatMap e47)), (13, .int .i64 a2), (12, .bool false), (11, .bool false), (10, .int .i64 a2), (6, .int .i64 0), (0, .str a0), (1, .vec (a1).length 3 ((a1).flatMap e47)), (2, .int .i64 a2)]) (congrArg (fun z : Bool => ([(28, .bool z), (27, .bool z), (26, .bool z), (25, .bool x0_15), (24, .agg [.int .i64 x0_13.f0, .str x0_13.f1, .int .i64 x0_13.f2]), (23, .vptr [.int .i64 x0_13.f0, .str x0_13.f1, .int .i64 x0_13.f2]), (22, .int .i64 (fW .i64 (a2 - 1))), (21, .int .i64 a2), (20, .vec (a1).length 3 ((a1).flatMap e47)), (19, .str a0), (18, .bool false), (17, .bool false), (16, .bool false), (15, .int .i64 (a1.length : Int)), (14, .vec (a1).length 3 ((a1).flatMap e47)), (13, .int .i64 a2), (12, .bool false), (11, .bool false), (10, .int .i64 a2), (6, .int .i64 0), (0, .str a0), (1, .vec (a1).length 3 ((a1).flatMap e47)), (2, .int .i64 a2)] : Env)) hb6) (opsD_run 3 (l' := (opsAt g49p1).toList.drop 22) (eE := E14) (H' := (mkH [])) (hs := []) (by kernel_rfl) (opsD_chk (l' := (opsAt g49p1).toList.drop 23) (eE := ((32, .vptr [.int .i64 x0_22.f0, .str x0_22.f1, .int .i64 x0_22.f2]) :: E14)) (hs := []) (x := x0_22) (fun (x0_22 : S46) => (.vptr [.int .i64 x0_22.f0, .str x0_22.f1, .int .i64 x0_22.f2], (mkH []))) (vidxH (sz := 3) e47_len (by kernel_rfl)) hx0_22 (by kernel_rfl) (opsD_run 1 (l' := (opsAt g49p1).toList.drop 24) (eE := ((33, .agg [.int .i64 x0_22.f0, .str x0_22.f1, .int .i64 x0_22.f2]) :: (32, .vptr [.int .i64 x0_22.f0, .str x0_22.f1, .int .i64 x0_22.f2]) :: E14)) (H' := (mkH [])) (hs := []) (by kernel_rfl) (opsD_call (l' := (opsAt g49p1).toList.drop 25) (eE := ((34, .bool x0_24) :: (33, .agg [.int .i64 x0_22.f0, .str x0_22.f1, .int .i64 x0_22.f2]) :: (32, .vptr [.int .i64 x0_22.f0, .str x0_22.f1, .int .i64 x0_22.f2]) :: E14)) (hs := [(mkH [])]) (fi := 66) (args := [.str a0, .agg [.int .i64 x0_22.f0, .str x0_22.f1, .int .i64 x0_22.f2]]) (v := .bool x0_24) (by kernel_rfl) (by kernel_rfl) (by kernel_rfl) (g66_ok k a0 (⟨x0_22.f0, x0_22.f1, x0_22.f2⟩ : S46) x0_24 hx0_24) (by kernel_rfl) (opsD_run 3 (l' := (opsAt g49p1).toList.drop 28) (eE := E15) (H' := (mkH [])) (hs := []) (by kernel_rfl) (opsD_env (eE := [(37, .bool false), (36, .bool false), (35, .bool false), (34, .bool x0_24), (33, .agg [.int .i64 x0_22.f0, .str x0_22.f1, .int .i64 x0_22.f2]), (32, .vptr [.int .i64 x0_22.f0, .str x0_22.f1, .int .i64 x0_22.f2]), (31, .int .i64 a2), (30, .vec (a1).length 3 ((a1).flatMap e47)), (29, .str a0), (28, .bool false), (27, .bool false), (26, .bool false), (25, .bool x0_15), (24, .agg [.int .i64 x0_13.f0, .str x0_13.f1, .int .i64 x0_13.f2]), (23, .vptr [.int .i64 x0_13.f0, .str x0_13.f1, .int .i64 x0_13.f2]), (22, .int .i64 (fW .i64 (a2 - 1))), (21, .int .i64 a2), (20, .vec (a1).length 3 ((a1).flatMap e47)), (19, .str a0), (18, .bool false), (17, .bool false), (16, .bool false), (15, .int .i64 (a1.length : Int)), (14, .vec (a1).length 3 ((a1).flatMap e47)), (13, .int .i64 a2), (12, .bool false), (11, .bool false), (10, .int .i64 a2), (6, .int .i64 0), (0, .str a0), (1, .vec (a1).length 3 ((a1).flatMap e47)), (2, .int .i64 a2)]) (congrArg (fun z : Bool => ([(37, .bool z), (36, .bool z), (35, .bool z), (34, .bool x0_24), (33, .agg [.int .i64 x0_22.f0, .str x0_22.f1, .int .i64 x0_22.f2]), (32, .vptr [.int .i64 x0_22.f0, .str x0_22.f1, .int .i64 x0_22.f2]), (31, .int .i64 a2), (30, .vec (a1).length 3 ((a1).flatMap e47)), (29, .str a0), (28, .bool false), (27, .bool false), (26, .bool false), (25, .bool x0_15), (24, .agg [.int .i64 x0_13.f0, .str x0_13.f1, .int .i64 x0_13.f2]), (23, .vptr [.int .i64 x0_13.f0, .str x0_13.f1, .int .i64 x0_13.f2]), (22, .int .i64 (fW .i64 (a2 - 1))), (21, .int .i64 a2), (20, .vec (a1).length 3 ((a1).flatMap e47)), (19, .str a0), (18, .bool false), (17, .bool false), (16, .bool false), (15, .int .i64 (a1.length : Int)), (14, .vec (a1).length 3 ((a1).flatMap e47)), (13, .int .i64 a2), (12, .bool false), (11, .bool false), (10, .int .i64 a2), (6, .int .i64 0), (0, .str a0), (1, .vec (a1).length 3 ((a1).flatMap e47)), (2, .int .i64 a2)] : Env)) hb7) (opsD_run 3 (l' := (opsAt g49p1).toList.drop 31) (eE := E17) (H' := (mkH [])) (hs := []) (by kernel_rfl) (opsD_chk (l' := (opsAt g49p1).toList.drop 32) (eE := ((41, .vptr [.int .i64 x0_31.f0, .str x0_31.f1, .int .i64 x0_31.f2]) :: E17)) (hs := []) (x := x0_31) (fun (x0_31 : S46) => (.vptr [.int .i64 x0_31.f0, .str x0_31.f1, .int .i64 x0_31.f2], (mkH []))) (vidxH (sz := 3) e47_len (by kernel_rfl)) hx0_31 (by kernel_rfl) (opsD_run 1 (l' := (opsAt g49p1).toList.drop 33) (eE := ((42, .agg [.int .i64 x0_31.f0, .str x0_31.f1, .int .i64 x0_31.f2]) :: (41, .vptr [.int .i64 x0_31.f0, .str x0_31.f1, .int .i64 x0_31.f2]) :: E17)) (H' := (mkH [])) (hs := []) (by kernel_rfl) (opsD_call (l' := (opsAt g49p1).toList.drop 34) (eE := ((43, .int .i64 x0_33) :: (42, .agg [.int .i64 x0_31.f0, .str x0_31.f1, .int .i64 x0_31.f2]) :: (41, .vptr [.int .i64 x0_31.f0, .str x0_31.f1, .int .i64 x0_31.f2]) :: E17)) (hs := [(mkH [])]) (fi := 38) (args := [.agg [.int .i64 x0_31.f0, .str x0_31.f1, .int .i64 x0_31.f2]]) (v := .int .i64 x0_33) (by kernel_rfl) (by kernel_rfl) (by kernel_rfl) (g38_ok k (⟨x0_31.f0, x0_31.f1, x0_31.f2⟩ : S46) x0_33 hx0_33) (by kernel_rfl) (opsD_run 2 (l' := (opsAt g49p1).toList.drop 36) (eE := E18) (H' := (mkH [])) (hs := []) (by kernel_rfl) (opsD_chk (l' := (opsAt g49p1).toList.drop 37) (eE := ((46, .vptr [.int .i64 x0_36.f0, .str x0_36.f1, .int .i64 x0_36.f2]) :: E18)) (hs := []) (x := x0_36) (fun (x0_36 : S46) => (.vptr [.int .i64 x0_36.f0, .str x0_36.f1, .int .i64 x0_36.f2], (mkH []))) (vidxH (sz := 3) e47_len (by kernel_rfl)) hx0_36 (by kernel_rfl) (opsD_run 4 (l' := (opsAt g49p1).toList.drop 41) (eE := E19) (H' := (mkH [])) (hs := []) (by kernel_rfl) (.nil)))))))))))))))))))))))) (by kernel_rfl) (by kernel_rfl) (by kernel_rfl) ?_
      refine oK [0, 1, 2, 50] (eE := [(0, .str a0), (1, .vec (a1).length 3 ((a1).flatMap e47)), (2, .int .i64 a2), (50, .bool (decide (x0_36.f2 < x0_33)))]) (by kernel_rfl) ?_
      exact hj4 (decide (x0_36.f2 < x0_33))
end
end Go.Proofs.Ytbmijiibfaacmaa.Am
set_option maxRecDepth 100000
set_option linter.unusedVariables false
namespace Go.Proofs.Ytbmijiibfaacmaa.Am
noncomputable section
open Go
def X36 : Fx Bool := ⟨Try.prog, cx, Try.f36, fun r => .bool r, 0, fun _ => H0, cxTi, cxOrd⟩
def g36p0 : Pt := nav [0] (bodyAt Try.f36)
def g36p1 : Pt := nav [0, 0, 0] g36p0
def g36 (k : Nat) (a0 : (List Nat)) (a1 : (List S46)) (a2 : Int) : Option Bool :=
 (g49 k a0 a1 a2).bind fun x0_3 => some (decide (0 < x0_3))
theorem g36_ok (k : Nat) (a0 : (List Nat)) (a1 : (List S46)) (a2 : Int) (r : Bool) (h : g36 k a0 a1 a2 = some r) : PureOk Try.prog 36 [.str a0, .vec (a1).length 3 ((a1).flatMap e47), .int .i64 a2] (.bool r) := by
 refine pure_of X36 (fun _ => rfl) Try.func36 (by decide +kernel) (by kernel_rfl) (t := g36 k a0 a1 a2) ?_ h
 unfold g36
 refine oE (eE := [(0, .str a0), (1, .vec (a1).length 3 ((a1).flatMap e47)), (2, .int .i64 a2)]) (by kernel_rfl) ?_
 let E1 : Env := [(9, .int .i64 a2), (8, .vec (a1).length 3 ((a1).flatMap e47)), (7, .str a0), (6, .bool false), (0, .str a0), (1, .vec (a1).length 3 ((a1).flatMap e47)), (2, .int .i64 a2)]
 refine oR 9 (p' := (atN 3 (ctl1 g36p1))) (eE := E1) (H' := (mkH [])) (by kernel_rfl) ?_
 refine oC (fun (x0_3 : Int) => .int .i64 x0_3) (atN 4 (ctl1 g36p1)) (fun x0_3 => ((10, .int .i64 x0_3) :: E1)) (fi := 49) (args := [.str a0, .vec (a1).length 3 ((a1).flatMap e47), .int .i64 a2]) (by kernel_rfl) (by kernel_rfl) (fun _ => by kernel_rfl) (fun r h => g49_ok k a0 a1 a2 r h) (fun _ => by kernel_rfl) (fun x0_3 hx0_3 => ?_)
 refine oR 4 (p' := .fin) (eE := ((6, .bool (decide (0 < x0_3))) :: (11, .bool (decide (0 < x0_3))) :: (10, .int .i64 x0_3) :: E1)) (H' := (mkH [])) (by kernel_rfl) ?_
 exact oT (r := (decide (0 < x0_3))) (xs := [.bool (decide (0 < x0_3))]) (v := .bool (decide (0 < x0_3))) (by kernel_rfl) (by kernel_rfl) (by kernel_rfl) (.pures (by kernel_rfl)) (by kernel_rfl)
end
end Go.Proofs.Ytbmijiibfaacmaa.Am
set_option maxRecDepth 100000
set_option linter.unusedVariables false
namespace Go.Proofs.Ytbmijiibfaacmaa.Am
noncomputable section
open Go
def X37 : Fx Bool := ⟨Try.prog, cx, Try.f37, fun r => .bool r, 0, fun _ => H0, cxTi, cxOrd⟩
def g37p0 : Pt := nav [0] (bodyAt Try.f37)
def g37p1 : Pt := nav [0, 0, 0] g37p0
def g37 (k : Nat) (a0 : (List Nat)) (a1 : (List S46)) (a2 : Int) : Option Bool :=
 (g49 k a0 a1 a2).bind fun x0_3 => some (decide (1 < x0_3))
theorem g37_ok (k : Nat) (a0 : (List Nat)) (a1 : (List S46)) (a2 : Int) (r : Bool) (h : g37 k a0 a1 a2 = some r) : PureOk Try.prog 37 [.str a0, .vec (a1).length 3 ((a1).flatMap e47), .int .i64 a2] (.bool r) := by
 refine pure_of X37 (fun _ => rfl) Try.func37 (by decide +kernel) (by kernel_rfl) (t := g37 k a0 a1 a2) ?_ h
 unfold g37
 refine oE (eE := [(0, .str a0), (1, .vec (a1).length 3 ((a1).flatMap e47)), (2, .int .i64 a2)]) (by kernel_rfl) ?_
 let E1 : Env := [(9, .int .i64 a2), (8, .vec (a1).length 3 ((a1).flatMap e47)), (7, .str a0), (6, .bool false), (0, .str a0), (1, .vec (a1).length 3 ((a1).flatMap e47)), (2, .int .i64 a2)]
 refine oR 9 (p' := (atN 3 (ctl1 g37p1))) (eE := E1) (H' := (mkH [])) (by kernel_rfl) ?_
 refine oC (fun (x0_3 : Int) => .int .i64 x0_3) (atN 4 (ctl1 g37p1)) (fun x0_3 => ((10, .int .i64 x0_3) :: E1)) (fi := 49) (args := [.str a0, .vec (a1).length 3 ((a1).flatMap e47), .int .i64 a2]) (by kernel_rfl) (by kernel_rfl) (fun _ => by kernel_rfl) (fun r h => g49_ok k a0 a1 a2 r h) (fun _ => by kernel_rfl) (fun x0_3 hx0_3 => ?_)
 refine oR 4 (p' := .fin) (eE := ((6, .bool (decide (1 < x0_3))) :: (11, .bool (decide (1 < x0_3))) :: (10, .int .i64 x0_3) :: E1)) (H' := (mkH [])) (by kernel_rfl) ?_
 exact oT (r := (decide (1 < x0_3))) (xs := [.bool (decide (1 < x0_3))]) (v := .bool (decide (1 < x0_3))) (by kernel_rfl) (by kernel_rfl) (by kernel_rfl) (.pures (by kernel_rfl)) (by kernel_rfl)
end
end Go.Proofs.Ytbmijiibfaacmaa.Am
set_option maxRecDepth 100000
set_option linter.unusedVariables false
namespace Go.Proofs.Ytbmijiibfaacmaa.Am
noncomputable section
open Go
def X34 : Fx Bool := ⟨Try.prog, cx, Try.f34, fun r => .bool r, 0, fun _ => H0, cxTi, cxOrd⟩
def g34c0 : List Nat := [102, 40, 91, 123, 49, 125, 93, 41, 10, 10, 46]
def g34p0 : Pt := nav [0] (bodyAt Try.f34)
def g34p1 : Pt := nav [0, 0, 0] g34p0
def g34p2 : Pt := nav [0, 0, 0] g34p1
def g34p3 : Pt := nav [0, 0, 0] g34p2
def g34 (k : Nat)  : Option Bool :=
 (g28 k g34c0).bind fun x0_1 => if (decide (x0_1.2 = 0)) then ((g39 k x0_1.1).bind fun x1_4 => if (decide (x1_4 = 3)) then ((g37 k g34c0 x0_1.1 (fW .i64 ((x0_1.1.length : Int) - 1))).bind fun x1_13 => if x1_13 then ((g36 k g34c0 x0_1.1 (fW .i64 ((x0_1.1.length : Int) - 1))).bind fun x1_21 => if x1_21 then ((g36 k g34c0 x0_1.1 (1 : Int)).bind fun x1_26 => if (!x1_26) then ((g37 k g34c0 x0_1.1 (0 : Int)).bind fun x1_32 => if (!x1_32) then ((nthL x0_1.1 0).bind fun x1_37 => (g38 k (⟨x1_37.f0, x1_37.f1, x1_37.f2⟩ : S46)).bind fun x1_39 => some (decide (x1_39 = 1))) else (some false)) else (some false)) else (some false)) else (some false)) else (some false)) else (some false)
theorem g34_ok (k : Nat)  (r : Bool) (h : g34 k  = some r) : PureOk Try.prog 34 [] (.bool r) := by
 refine pure_of X34 (fun _ => rfl) Try.func34 (by decide +kernel) (by kernel_rfl) (t := g34 k ) ?_ h
 unfold g34
 refine oE (eE := []) (by kernel_rfl) ?_
 refine oR 11 (p' := (atN 1 (ctl1 g34p2))) (eE := [(5, .str g34c0), (1, .str g34c0), (0, .bool false)]) (H' := (mkH [])) (by kernel_rfl) ?_
 refine oC (fun (x0_1 : ((List S46) × Int)) => .tuple [.vec (x0_1.1).length 3 ((x0_1.1).flatMap e47), .int .i64 x0_1.2]) (atN 2 (ctl1 g34p2)) (fun x0_1 => [(6, .tuple [.vec (x0_1.1).length 3 ((x0_1.1).flatMap e47), .int .i64 x0_1.2]), (5, .str g34c0), (1, .str g34c0), (0, .bool false)]) (fi := 28) (args := [.str g34c0]) (by kernel_rfl) (by kernel_rfl) (fun _ => by kernel_rfl) (fun r h => g28_ok k g34c0 r h) (fun _ => by kernel_rfl) (fun x0_1 hx0_1 => ?_)
 let E1 : Env := [(11, .bool (decide (x0_1.2 = 0))), (10, .bool (decide (x0_1.2 = 0))), (9, .int .i64 x0_1.2), (3, .int .i64 x0_1.2), (2, .vec (x0_1.1).length 3 ((x0_1.1).flatMap e47)), (8, .int .i64 x0_1.2), (7, .vec (x0_1.1).length 3 ((x0_1.1).flatMap e47)), (4, .tuple [.vec (x0_1.1).length 3 ((x0_1.1).flatMap e47), .int .i64 x0_1.2]), (6, .tuple [.vec (x0_1.1).length 3 ((x0_1.1).flatMap e47), .int .i64 x0_1.2]), (5, .str g34c0), (1, .str g34c0), (0, .bool false)]
 refine oR 11 (p' := (atN 3 (ctl1 g34p3))) (eE := E1) (H' := (mkH [])) (by kernel_rfl) ?_
 refine oS 11 (b := decide (x0_1.2 = 0)) (by kernel_rfl) (fun hb => ?_) (fun hb => ?_)
 ·refine oR 1 (p' := (atN 4 (ctl1 g34p3))) (eE := ((12, .vec (x0_1.1).length 3 ((x0_1.1).flatMap e47)) :: (11, .bool true) :: E1)) (H' := (mkH [])) (by kernel_rfl) ?_
  refine oC (fun (x1_4 : Int) => .int .i64 x1_4) (atN 5 (ctl1 g34p3)) (fun x1_4 => ((13, .int .i64 x1_4) :: (12, .vec (x0_1.1).length 3 ((x0_1.1).flatMap e47)) :: (11, .bool true) :: E1)) (fi := 39) (args := [.vec (x0_1.1).length 3 ((x0_1.1).flatMap e47)]) (by kernel_rfl) (by kernel_rfl) (fun _ => by kernel_rfl) (fun r h => g39_ok k x0_1.1 r h) (fun _ => by kernel_rfl) (fun x1_4 hx1_4 => ?_)
  let E2 : Env := ((16, .bool (decide (x1_4 = 3))) :: (15, .bool (decide (x1_4 = 3))) :: (14, .bool (decide (x1_4 = 3))) :: (13, .int .i64 x1_4) :: (12, .vec (x0_1.1).length 3 ((x0_1.1).flatMap e47)) :: (11, .bool true) :: E1)
  refine oR 3 (p' := (atN 8 (ctl1 g34p3))) (eE := E2) (H' := (mkH [])) (by kernel_rfl) ?_
  refine oS 16 (b := decide (x1_4 = 3)) (by kernel_rfl) (fun hb => ?_) (fun hb => ?_)
  ·let E3 : Env := ((21, .int .i64 (fW .i64 ((x0_1.1.length : Int) - 1))) :: (20, .int .i64 (x0_1.1.length : Int)) :: (19, .vec (x0_1.1).length 3 ((x0_1.1).flatMap e47)) :: (18, .vec (x0_1.1).length 3 ((x0_1.1).flatMap e47)) :: (17, .str g34c0) :: (16, .bool true) :: E2)
   refine oR 5 (p' := (atN 13 (ctl1 g34p3))) (eE := E3) (H' := (mkH [])) (by kernel_rfl) ?_
   refine oC (fun (x1_13 : Bool) => .bool x1_13) (atN 14 (ctl1 g34p3)) (fun x1_13 => ((22, .bool x1_13) :: E3)) (fi := 37) (args := [.str g34c0, .vec (x0_1.1).length 3 ((x0_1.1).flatMap e47), .int .i64 (fW .i64 ((x0_1.1.length : Int) - 1))]) (by kernel_rfl) (by kernel_rfl) (fun _ => by kernel_rfl) (fun r h => g37_ok k g34c0 x0_1.1 (fW .i64 ((x0_1.1.length : Int) - 1)) r h) (fun _ => by kernel_rfl) (fun x1_13 hx1_13 => ?_)
   refine oR 2 (p' := (atN 16 (ctl1 g34p3))) (eE := ((24, .bool x1_13) :: (23, .bool x1_13) :: (22, .bool x1_13) :: E3)) (H' := (mkH [])) (by kernel_rfl) ?_
   refine oS 24 (b := x1_13) (by kernel_rfl) (fun hb => ?_) (fun hb => ?_)
   ·let E4 : Env := ((29, .int .i64 (fW .i64 ((x0_1.1.length : Int) - 1))) :: (28, .int .i64 (x0_1.1.length : Int)) :: (27, .vec (x0_1.1).length 3 ((x0_1.1).flatMap e47)) :: (26, .vec (x0_1.1).length 3 ((x0_1.1).flatMap e47)) :: (25, .str g34c0) :: (24, .bool true) :: (24, .bool x1_13) :: (23, .bool x1_13) :: (22, .bool x1_13) :: E3)
    refine oR 5 (p' := (atN 21 (ctl1 g34p3))) (eE := E4) (H' := (mkH [])) (by kernel_rfl) ?_
    refine oC (fun (x1_21 : Bool) => .bool x1_21) (atN 22 (ctl1 g34p3)) (fun x1_21 => ((30, .bool x1_21) :: E4)) (fi := 36) (args := [.str g34c0, .vec (x0_1.1).length 3 ((x0_1.1).flatMap e47), .int .i64 (fW .i64 ((x0_1.1.length : Int) - 1))]) (by kernel_rfl) (by kernel_rfl) (fun _ => by kernel_rfl) (fun r h => g36_ok k g34c0 x0_1.1 (fW .i64 ((x0_1.1.length : Int) - 1)) r h) (fun _ => by kernel_rfl) (fun x1_21 hx1_21 => ?_)
    refine oR 2 (p' := (atN 24 (ctl1 g34p3))) (eE := ((32, .bool x1_21) :: (31, .bool x1_21) :: (30, .bool x1_21) :: E4)) (H' := (mkH [])) (by kernel_rfl) ?_
    refine oS 32 (b := x1_21) (by kernel_rfl) (fun hb => ?_) (fun hb => ?_)
    ·let E5 : Env := ((34, .vec (x0_1.1).length 3 ((x0_1.1).flatMap e47)) :: (33, .str g34c0) :: (32, .bool true) :: (32, .bool x1_21) :: (31, .bool x1_21) :: (30, .bool x1_21) :: E4)
     refine oR 2 (p' := (atN 26 (ctl1 g34p3))) (eE := E5) (H' := (mkH [])) (by kernel_rfl) ?_
     refine oC (fun (x1_26 : Bool) => .bool x1_26) (atN 27 (ctl1 g34p3)) (fun x1_26 => ((35, .bool x1_26) :: E5)) (fi := 36) (args := [.str g34c0, .vec (x0_1.1).length 3 ((x0_1.1).flatMap e47), .int .i64 1]) (by kernel_rfl) (by kernel_rfl) (fun _ => by kernel_rfl) (fun r h => g36_ok k g34c0 x0_1.1 (1 : Int) r h) (fun _ => by kernel_rfl) (fun x1_26 hx1_26 => ?_)
     refine oR 3 (p' := (atN 30 (ctl1 g34p3))) (eE := ((38, .bool (!x1_26)) :: (37, .bool (!x1_26)) :: (36, .bool (!x1_26)) :: (35, .bool x1_26) :: E5)) (H' := (mkH [])) (by kernel_rfl) ?_
     refine oS 38 (b := !x1_26) (by kernel_rfl) (fun hb => ?_) (fun hb => ?_)
     ·let E6 : Env := ((40, .vec (x0_1.1).length 3 ((x0_1.1).flatMap e47)) :: (39, .str g34c0) :: (38, .bool true) :: (38, .bool (!x1_26)) :: (37, .bool (!x1_26)) :: (36, .bool (!x1_26)) :: (35, .bool x1_26) :: E5)
      refine oR 2 (p' := (atN 32 (ctl1 g34p3))) (eE := E6) (H' := (mkH [])) (by kernel_rfl) ?_
      refine oC (fun (x1_32 : Bool) => .bool x1_32) (atN 33 (ctl1 g34p3)) (fun x1_32 => ((41, .bool x1_32) :: E6)) (fi := 37) (args := [.str g34c0, .vec (x0_1.1).length 3 ((x0_1.1).flatMap e47), .int .i64 0]) (by kernel_rfl) (by kernel_rfl) (fun _ => by kernel_rfl) (fun r h => g37_ok k g34c0 x0_1.1 (0 : Int) r h) (fun _ => by kernel_rfl) (fun x1_32 hx1_32 => ?_)
      refine oR 3 (p' := (atN 36 (ctl1 g34p3))) (eE := ((44, .bool (!x1_32)) :: (43, .bool (!x1_32)) :: (42, .bool (!x1_32)) :: (41, .bool x1_32) :: E6)) (H' := (mkH [])) (by kernel_rfl) ?_
      refine oS 44 (b := !x1_32) (by kernel_rfl) (fun hb => ?_) (fun hb => ?_)
      ·let E7 : Env := ((45, .vec (x0_1.1).length 3 ((x0_1.1).flatMap e47)) :: (44, .bool true) :: (44, .bool (!x1_32)) :: (43, .bool (!x1_32)) :: (42, .bool (!x1_32)) :: (41, .bool x1_32) :: E6)
       refine oR 1 (p' := (atN 37 (ctl1 g34p3))) (eE := E7) (H' := (mkH [])) (by kernel_rfl) ?_
       refine oH (fun (x1_37 : S46) => (.vptr [.int .i64 x1_37.f0, .str x1_37.f1, .int .i64 x1_37.f2], (mkH []))) (atN 38 (ctl1 g34p3)) (fun x1_37 => ((46, .vptr [.int .i64 x1_37.f0, .str x1_37.f1, .int .i64 x1_37.f2]) :: E7)) (vidxH (sz := 3) e47_len (by kernel_rfl)) (fun _ => by kernel_rfl) (fun x1_37 hx1_37 => ?_)
       refine oR 1 (p' := (atN 39 (ctl1 g34p3))) (eE := ((47, .agg [.int .i64 x1_37.f0, .str x1_37.f1, .int .i64 x1_37.f2]) :: (46, .vptr [.int .i64 x1_37.f0, .str x1_37.f1, .int .i64 x1_37.f2]) :: E7)) (H' := (mkH [])) (by kernel_rfl) ?_
       refine oC (fun (x1_39 : Int) => .int .i64 x1_39) (atN 40 (ctl1 g34p3)) (fun x1_39 => ((48, .int .i64 x1_39) :: (47, .agg [.int .i64 x1_37.f0, .str x1_37.f1, .int .i64 x1_37.f2]) :: (46, .vptr [.int .i64 x1_37.f0, .str x1_37.f1, .int .i64 x1_37.f2]) :: E7)) (fi := 38) (args := [.agg [.int .i64 x1_37.f0, .str x1_37.f1, .int .i64 x1_37.f2]]) (by kernel_rfl) (by kernel_rfl) (fun _ => by kernel_rfl) (fun r h => g38_ok k (⟨x1_37.f0, x1_37.f1, x1_37.f2⟩ : S46) r h) (fun _ => by kernel_rfl) (fun x1_39 hx1_39 => ?_)
       let E8 : Env := ((0, .bool (decide (x1_39 = 1))) :: (50, .bool (decide (x1_39 = 1))) :: (49, .bool (decide (x1_39 = 1))) :: (48, .int .i64 x1_39) :: (47, .agg [.int .i64 x1_37.f0, .str x1_37.f1, .int .i64 x1_37.f2]) :: (46, .vptr [.int .i64 x1_37.f0, .str x1_37.f1, .int .i64 x1_37.f2]) :: E7)
       refine oR 5 (p' := .fin) (eE := E8) (H' := (mkH [])) (by kernel_rfl) ?_
       exact oT (r := (decide (x1_39 = 1))) (xs := [.bool (decide (x1_39 = 1))]) (v := .bool (decide (x1_39 = 1))) (by kernel_rfl) (by kernel_rfl) (by kernel_rfl) (.pures (by kernel_rfl)) (by kernel_rfl)
      ·let E9 : Env := ((0, .bool false) :: (50, .bool false) :: (49, .tuple []) :: (48, .tuple []) :: (47, .tuple []) :: (46, .tuple []) :: (45, .tuple []) :: (44, .bool false) :: (44, .bool (!x1_32)) :: (43, .bool (!x1_32)) :: (42, .bool (!x1_32)) :: (41, .bool x1_32) :: E6)
       refine oR 9 (p' := .fin) (eE := E9) (H' := (mkH [])) (by kernel_rfl) ?_
       exact oT (r := false) (xs := [.bool false]) (v := .bool false) (by kernel_rfl) (by kernel_rfl) (by kernel_rfl) (.pures (by kernel_rfl)) (by kernel_rfl)
     ·let E10 : Env := ((0, .bool false) :: (50, .bool false) :: (49, .tuple []) :: (48, .tuple []) :: (47, .tuple []) :: (46, .tuple []) :: (45, .tuple []) :: (44, .bool false) :: (43, .bool false) :: (42, .tuple []) :: (41, .tuple []) :: (40, .tuple []) :: (39, .tuple []) :: (38, .bool false) :: (38, .bool (!x1_26)) :: (37, .bool (!x1_26)) :: (36, .bool (!x1_26)) :: (35, .bool x1_26) :: E5)
      refine oR 15 (p' := .fin) (eE := E10) (H' := (mkH [])) (by kernel_rfl) ?_
      exact oT (r := false) (xs := [.bool false]) (v := .bool false) (by kernel_rfl) (by kernel_rfl) (by kernel_rfl) (.pures (by kernel_rfl)) (by kernel_rfl)
    ·let E11 : Env := ((0, .bool false) :: (50, .bool false) :: (49, .tuple []) :: (48, .tuple []) :: (47, .tuple []) :: (46, .tuple []) :: (45, .tuple []) :: (44, .bool false) :: (43, .bool false) :: (42, .tuple []) :: (41, .tuple []) :: (40, .tuple []) :: (39, .tuple []) :: (38, .bool false) :: (37, .bool false) :: (36, .tuple []) :: (35, .tuple []) :: (34, .tuple []) :: (33, .tuple []) :: (32, .bool false) :: (32, .bool x1_21) :: (31, .bool x1_21) :: (30, .bool x1_21) :: E4)
     refine oR 21 (p' := .fin) (eE := E11) (H' := (mkH [])) (by kernel_rfl) ?_
     exact oT (r := false) (xs := [.bool false]) (v := .bool false) (by kernel_rfl) (by kernel_rfl) (by kernel_rfl) (.pures (by kernel_rfl)) (by kernel_rfl)
   ·let E12 : Env := ((0, .bool false) :: (50, .bool false) :: (49, .tuple []) :: (48, .tuple []) :: (47, .tuple []) :: (46, .tuple []) :: (45, .tuple []) :: (44, .bool false) :: (43, .bool false) :: (42, .tuple []) :: (41, .tuple []) :: (40, .tuple []) :: (39, .tuple []) :: (38, .bool false) :: (37, .bool false) :: (36, .tuple []) :: (35, .tuple []) :: (34, .tuple []) :: (33, .tuple []) :: (32, .bool false) :: (31, .bool false) :: (30, .tuple []) :: (29, .tuple []) :: (28, .tuple []) :: (27, .tuple []) :: (26, .tuple []) :: (25, .tuple []) :: (24, .bool false) :: (24, .bool x1_13) :: (23, .bool x1_13) :: (22, .bool x1_13) :: E3)
    refine oR 29 (p' := .fin) (eE := E12) (H' := (mkH [])) (by kernel_rfl) ?_
    exact oT (r := false) (xs := [.bool false]) (v := .bool false) (by kernel_rfl) (by kernel_rfl) (by kernel_rfl) (.pures (by kernel_rfl)) (by kernel_rfl)
  ·let E13 : Env := ((0, .bool false) :: (50, .bool false) :: (49, .tuple []) :: (48, .tuple []) :: (47, .tuple []) :: (46, .tuple []) :: (45, .tuple []) :: (44, .bool false) :: (43, .bool false) :: (42, .tuple []) :: (41, .tuple []) :: (40, .tuple []) :: (39, .tuple []) :: (38, .bool false) :: (37, .bool false) :: (36, .tuple []) :: (35, .tuple []) :: (34, .tuple []) :: (33, .tuple []) :: (32, .bool false) :: (31, .bool false) :: (30, .tuple []) :: (29, .tuple []) :: (28, .tuple []) :: (27, .tuple []) :: (26, .tuple []) :: (25, .tuple []) :: (24, .bool false) :: (23, .bool false) :: (22, .tuple []) :: (21, .tuple []) :: (20, .tuple []) :: (19, .tuple []) :: (18, .tuple []) :: (17, .tuple []) :: (16, .bool false) :: E2)
   refine oR 37 (p' := .fin) (eE := E13) (H' := (mkH [])) (by kernel_rfl) ?_
   exact oT (r := false) (xs := [.bool false]) (v := .bool false) (by kernel_rfl) (by kernel_rfl) (by kernel_rfl) (.pures (by kernel_rfl)) (by kernel_rfl)
 ·let E14 : Env := ((0, .bool false) :: (50, .bool false) :: (49, .tuple []) :: (48, .tuple []) :: (47, .tuple []) :: (46, .tuple []) :: (45, .tuple []) :: (44, .bool false) :: (43, .bool false) :: (42, .tuple []) :: (41, .tuple []) :: (40, .tuple []) :: (39, .tuple []) :: (38, .bool false) :: (37, .bool false) :: (36, .tuple []) :: (35, .tuple []) :: (34, .tuple []) :: (33, .tuple []) :: (32, .bool false) :: (31, .bool false) :: (30, .tuple []) :: (29, .tuple []) :: (28, .tuple []) :: (27, .tuple []) :: (26, .tuple []) :: (25, .tuple []) :: (24, .bool false) :: (23, .bool false) :: (22, .tuple []) :: (21, .tuple []) :: (20, .tuple []) :: (19, .tuple []) :: (18, .tuple []) :: (17, .tuple []) :: (16, .bool false) :: (15, .bool false) :: (14, .tuple []) :: (13, .tuple []) :: (12, .tuple []) :: (11, .bool false) :: E1)
  refine oR 42 (p' := .fin) (eE := E14) (H' := (mkH [])) (by kernel_rfl) ?_
  exact oT (r := false) (xs := [.bool false]) (v := .bool false) (by kernel_rfl) (by kernel_rfl) (by kernel_rfl) (.pures (by kernel_rfl)) (by kernel_rfl)
end
end Go.Proofs.Ytbmijiibfaacmaa.Am
set_option maxRecDepth 100000
set_option linter.unusedVariables false
namespace Go.Proofs.Ytbmijiibfaacmaa.Am
noncomputable section
open Go
def X12 : Fx Bool := ⟨Try.prog, cx, Try.f12, fun r => .bool r, 0, fun _ => H0, cxTi, cxOrd⟩
def g12c0 : List Nat := [98, 101, 103, 105, 110, 32]
def g12c1 : List Nat := [114, 101, 99, 101, 105, 118, 101, 32]
def g12c2 : List (List Nat) := [([40] : List Nat), ([123] : List Nat), ([91] : List Nat), ([60, 60] : List Nat), g12c0, ([99, 97, 115, 101, 32] : List Nat), ([105, 102, 32] : List Nat), g12c1, ([102, 117, 110, 40] : List Nat)]
def g12c3 : List (List Nat) := [([41] : List Nat), ([125] : List Nat), ([93] : List Nat), ([62, 62] : List Nat), ([32, 101, 110, 100] : List Nat), ([32, 101, 110, 100] : List Nat), ([32, 101, 110, 100] : List Nat), ([32, 101, 110, 100] : List Nat), ([41, 32, 101, 110, 100] : List Nat)]
def g12p0 : Pt := nav [0] (bodyAt Try.f12)
def g12p1 : Pt := nav [0, 0, 0] g12p0
def g12p2 : Pt := nav [0, 0, 0] g12p1
def g12p3 : Pt := nav [0, 0, 0] g12p2
def g12p4 : Pt := nav [0, 0, 0] g12p3
def g12p5 : Pt := nav [0, 0, 0, 0] g12p4
def g12p6 : Pt := nav [0, 0, 0, 0] g12p5
def g12p7 : Pt := nav [0, 0, 0] g12p6
def g12p8 : Pt := nav [0, 0] g12p7
def g12p9 : Pt := nav [1, 0, 0, 0, 0] g12p8
def g12p10 : Pt := nav [2, 0, 0] g12p8
def g12p11 : Pt := nav [0, 0] g12p9
def g12p12 : Pt := nav [0, 0, 0, 0] g12p10
def g12p13 : Pt := nav [0, 0] g12p11
def g12p14 : Pt := nav [0, 0, 0, 0] g12p12
def g12p15 : Pt := nav [0, 0, 0] g12p14
def g12p16 : Pt := nav [0, 0] g12p15
def g12p17 : Pt := nav [1, 0, 0, 0] g12p16
def g12p18 : Pt := nav [2, 0, 0] g12p16
def g12p19 : Pt := nav [0, 0] g12p17
def g12p20 : Pt := nav [0, 0, 0] g12p18
def g12p21 : Pt := nav [0, 0, 0] g12p20
def g12p22 : Pt := nav [0, 0, 0, 0] g12p21
def g12p23 : Pt := nav [0, 0] g12p22
def g12p25 : Pt := nav [2, 0, 0] g12p23
def g12_l10 (k : Nat)  (a0 : Int) (x0_5 : (List Nat)) (x1_5 : (List Nat)) (n : Nat) : (List Nat) → (List Nat) → Int → Option Bool :=
 Nat.rec (motive := fun _ => (List Nat) → (List Nat) → Int → Option Bool) (fun _ _ _ => none) (fun _ ih => fun (y10_0 : (List Nat)) (y10_1 : (List Nat)) (y10_2 : Int) => if (decide (y10_2 < fW .i64 ((fW .u64 a0).tmod 151))) then ((catS y10_0 x1_5).bind fun x5_2 => ih x5_2 y10_1 (fW .i64 (y10_2 + 1))) else ((g28 k y10_0).bind fun x6_1 => (g28 k y10_1).bind fun x7_1 => jn (fun (z11 : Int × Int) => (g34 k).bind fun x8_0 => if x8_0 then (if (decide (x6_1.2 = 0)) then (if (decide (x7_1.2 = 0)) then ((g39 k x6_1.1).bind fun x8_11 => if (decide (x8_11 = z11.1)) then ((g39 k x7_1.1).bind fun x8_17 => some (decide (x8_17 = z11.2))) else (some false)) else (some false)) else (some false)) else (some false)) (fun j11 => if (eqL x0_5 [102, 117, 110, 40]) then (j11 (fW .i64 (2 * fW .i64 ((fW .u64 a0).tmod 151)), fW .i64 (2 * minI (fW .i64 ((fW .u64 a0).tmod 151)) 1))) else (j11 (fW .i64 ((fW .u64 a0).tmod 151), minI (fW .i64 ((fW .u64 a0).tmod 151)) 1))))) n
theorem g12_l10_s (k : Nat)  (a0 : Int) (x0_5 : (List Nat)) (x1_5 : (List Nat)) (n : Nat) (y10_0 : (List Nat)) (y10_1 : (List Nat)) (y10_2 : Int) : g12_l10 k a0 x0_5 x1_5 (n + 1) y10_0 y10_1 y10_2 = (if (decide (y10_2 < fW .i64 ((fW .u64 a0).tmod 151))) then ((catS y10_0 x1_5).bind fun x5_2 => (g12_l10 k a0 x0_5 x1_5 n) x5_2 y10_1 (fW .i64 (y10_2 + 1))) else ((g28 k y10_0).bind fun x6_1 => (g28 k y10_1).bind fun x7_1 => jn (fun (z11 : Int × Int) => (g34 k).bind fun x8_0 => if x8_0 then (if (decide (x6_1.2 = 0)) then (if (decide (x7_1.2 = 0)) then ((g39 k x6_1.1).bind fun x8_11 => if (decide (x8_11 = z11.1)) then ((g39 k x7_1.1).bind fun x8_17 => some (decide (x8_17 = z11.2))) else (some false)) else (some false)) else (some false)) else (some false)) (fun j11 => if (eqL x0_5 [102, 117, 110, 40]) then (j11 (fW .i64 (2 * fW .i64 ((fW .u64 a0).tmod 151)), fW .i64 (2 * minI (fW .i64 ((fW .u64 a0).tmod 151)) 1))) else (j11 (fW .i64 ((fW .u64 a0).tmod 151), minI (fW .i64 ((fW .u64 a0).tmod 151)) 1))))) := rfl
theorem g12_l10_ok (k : Nat)  (a0 : Int) (x0_5 : (List Nat)) (x1_5 : (List Nat))  : ∀ (n : Nat) (y10_0 : (List Nat)) (y10_1 : (List Nat)) (y10_2 : Int), Ok X12 g12p14 [(5, .str x0_5), (6, .str x1_5), (7, .int .i64 (fW .i64 ((fW .u64 a0).tmod 151))), (8, .str y10_0), (9, .str y10_1), (11, .int .i64 y10_2)] (mkH []) (g12_l10 k a0 x0_5 x1_5 n y10_0 y10_1 y10_2)
 | 0, _, _, _ => ok_none
 | n + 1, y10_0, y10_1, y10_2 => by
  have ih := g12_l10_ok k a0 x0_5 x1_5 n
  rw [g12_l10_s]
  refine ok_ent (p' := nav [0] g12p14) (by kernel_rfl) ?_
  let E10 : Env := [(55, .bool (decide (y10_2 < fW .i64 ((fW .u64 a0).tmod 151)))), (54, .int .i64 (fW .i64 ((fW .u64 a0).tmod 151))), (53, .int .i64 y10_2), (5, .str x0_5), (6, .str x1_5), (7, .int .i64 (fW .i64 ((fW .u64 a0).tmod 151))), (8, .str y10_0), (9, .str y10_1), (11, .int .i64 y10_2)]
  refine oR 7 (p' := g12p16) (eE := E10) (H' := (mkH [])) (by kernel_rfl) ?_
  refine oS 55 (b := decide (y10_2 < fW .i64 ((fW .u64 a0).tmod 151))) (by kernel_rfl) (fun hb => ?_) (fun hb => ?_)
  ·refine oR 7 (p' := (atN 2 (ctl1 g12p17))) (eE := ((59, .str x1_5) :: (58, .str y10_0) :: (55, .bool true) :: E10)) (H' := (mkH [])) (by kernel_rfl) ?_
   refine oH (fun (x5_2 : (List Nat)) => (.str x5_2, (mkH []))) (atN 3 (ctl1 g12p17)) (fun x5_2 => ((60, .str x5_2) :: (59, .str x1_5) :: (58, .str y10_0) :: (55, .bool true) :: E10)) (catH (by kernel_rfl)) (fun _ => by kernel_rfl) (fun x5_2 hx5_2 => ?_)
   let E11 : Env := ((8, .str x5_2) :: (60, .str x5_2) :: (59, .str x1_5) :: (58, .str y10_0) :: (55, .bool true) :: E10)
   refine oR 2 (p' := g12p19) (eE := E11) (H' := (mkH [])) (by kernel_rfl) ?_
   refine oK [5, 6, 7, 8, 9, 11] (eE := [(5, .str x0_5), (6, .str x1_5), (7, .int .i64 (fW .i64 ((fW .u64 a0).tmod 151))), (8, .str x5_2), (9, .str y10_1), (11, .int .i64 y10_2)]) (by kernel_rfl) ?_
   let E12 : Env := [(11, .int .i64 (fW .i64 (y10_2 + 1))), (57, .int .i64 (fW .i64 (y10_2 + 1))), (56, .int .i64 y10_2), (5, .str x0_5), (6, .str x1_5), (7, .int .i64 (fW .i64 ((fW .u64 a0).tmod 151))), (8, .str x5_2), (9, .str y10_1), (11, .int .i64 y10_2)]
   refine oR 5 (p' := g12p14) (eE := E12) (H' := (mkH [])) (by kernel_rfl) ?_
   refine oK [5, 6, 7, 8, 9, 11] (eE := [(5, .str x0_5), (6, .str x1_5), (7, .int .i64 (fW .i64 ((fW .u64 a0).tmod 151))), (8, .str x5_2), (9, .str y10_1), (11, .int .i64 (fW .i64 (y10_2 + 1)))]) (by kernel_rfl) ?_
   exact ih x5_2 y10_1 (fW .i64 (y10_2 + 1))
  ·refine oR 5 (p' := (atN 1 (ctl1 g12p18))) (eE := ((62, .str y10_0) :: (55, .bool false) :: E10)) (H' := (mkH [])) (by kernel_rfl) ?_
   refine oC (fun (x6_1 : ((List S46) × Int)) => .tuple [.vec (x6_1.1).length 3 ((x6_1.1).flatMap e47), .int .i64 x6_1.2]) (atN 2 (ctl1 g12p18)) (fun x6_1 => ((63, .tuple [.vec (x6_1.1).length 3 ((x6_1.1).flatMap e47), .int .i64 x6_1.2]) :: (62, .str y10_0) :: (55, .bool false) :: E10)) (fi := 28) (args := [.str y10_0]) (by kernel_rfl) (by kernel_rfl) (fun _ => by kernel_rfl) (fun r h => g28_ok k y10_0 r h) (fun _ => by kernel_rfl) (fun x6_1 hx6_1 => ?_)
   let E13 : Env := ((13, .int .i64 x6_1.2) :: (12, .vec (x6_1.1).length 3 ((x6_1.1).flatMap e47)) :: (65, .int .i64 x6_1.2) :: (64, .vec (x6_1.1).length 3 ((x6_1.1).flatMap e47)) :: (61, .tuple [.vec (x6_1.1).length 3 ((x6_1.1).flatMap e47), .int .i64 x6_1.2]) :: (63, .tuple [.vec (x6_1.1).length 3 ((x6_1.1).flatMap e47), .int .i64 x6_1.2]) :: (62, .str y10_0) :: (55, .bool false) :: E10)
   refine oR 7 (p' := g12p20) (eE := E13) (H' := (mkH [])) (by kernel_rfl) ?_
   refine oK [5, 7, 9, 12, 13] (eE := [(5, .str x0_5), (7, .int .i64 (fW .i64 ((fW .u64 a0).tmod 151))), (9, .str y10_1), (12, .vec (x6_1.1).length 3 ((x6_1.1).flatMap e47)), (13, .int .i64 x6_1.2)]) (by kernel_rfl) ?_
   let E14 : Env := [(67, .str y10_1), (5, .str x0_5), (7, .int .i64 (fW .i64 ((fW .u64 a0).tmod 151))), (9, .str y10_1), (12, .vec (x6_1.1).length 3 ((x6_1.1).flatMap e47)), (13, .int .i64 x6_1.2)]
   refine oR 2 (p' := (atN 1 (ctl1 g12p20))) (eE := E14) (H' := (mkH [])) (by kernel_rfl) ?_
   refine oC (fun (x7_1 : ((List S46) × Int)) => .tuple [.vec (x7_1.1).length 3 ((x7_1.1).flatMap e47), .int .i64 x7_1.2]) (atN 2 (ctl1 g12p20)) (fun x7_1 => ((68, .tuple [.vec (x7_1.1).length 3 ((x7_1.1).flatMap e47), .int .i64 x7_1.2]) :: E14)) (fi := 28) (args := [.str y10_1]) (by kernel_rfl) (by kernel_rfl) (fun _ => by kernel_rfl) (fun r h => g28_ok k y10_1 r h) (fun _ => by kernel_rfl) (fun x7_1 hx7_1 => ?_)
   let E15 : Env := ((17, .int .i64 (minI (fW .i64 ((fW .u64 a0).tmod 151)) 1)) :: (16, .int .i64 (fW .i64 ((fW .u64 a0).tmod 151))) :: (73, .int .i64 (minI (fW .i64 ((fW .u64 a0).tmod 151)) 1)) :: (72, .int .i64 (fW .i64 ((fW .u64 a0).tmod 151))) :: (71, .int .i64 (fW .i64 ((fW .u64 a0).tmod 151))) :: (15, .int .i64 x7_1.2) :: (14, .vec (x7_1.1).length 3 ((x7_1.1).flatMap e47)) :: (70, .int .i64 x7_1.2) :: (69, .vec (x7_1.1).length 3 ((x7_1.1).flatMap e47)) :: (66, .tuple [.vec (x7_1.1).length 3 ((x7_1.1).flatMap e47), .int .i64 x7_1.2]) :: (68, .tuple [.vec (x7_1.1).length 3 ((x7_1.1).flatMap e47), .int .i64 x7_1.2]) :: E14)
   refine oR 16 (p' := g12p22) (eE := E15) (H' := (mkH [])) (by kernel_rfl) ?_
   refine oK [5, 7, 12, 13, 14, 15, 16, 17] (eE := [(5, .str x0_5), (7, .int .i64 (fW .i64 ((fW .u64 a0).tmod 151))), (12, .vec (x6_1.1).length 3 ((x6_1.1).flatMap e47)), (13, .int .i64 x6_1.2), (14, .vec (x7_1.1).length 3 ((x7_1.1).flatMap e47)), (15, .int .i64 x7_1.2), (16, .int .i64 (fW .i64 ((fW .u64 a0).tmod 151))), (17, .int .i64 (minI (fW .i64 ((fW .u64 a0).tmod 151)) 1))]) (by kernel_rfl) ?_
   let E16 : Env := [(75, .bool (eqL x0_5 [102, 117, 110, 40])), (74, .str x0_5), (5, .str x0_5), (7, .int .i64 (fW .i64 ((fW .u64 a0).tmod 151))), (12, .vec (x6_1.1).length 3 ((x6_1.1).flatMap e47)), (13, .int .i64 x6_1.2), (14, .vec (x7_1.1).length 3 ((x7_1.1).flatMap e47)), (15, .int .i64 x7_1.2), (16, .int .i64 (fW .i64 ((fW .u64 a0).tmod 151))), (17, .int .i64 (minI (fW .i64 ((fW .u64 a0).tmod 151)) 1))]
   refine oR 4 (p' := g12p23) (eE := E16) (H' := (mkH [])) (by kernel_rfl) ?_
   refine oJ (f := fun (z11 : Int × Int) => (g34 k).bind fun x8_0 => if x8_0 then (if (decide (x6_1.2 = 0)) then (if (decide (x7_1.2 = 0)) then ((g39 k x6_1.1).bind fun x8_11 => if (decide (x8_11 = z11.1)) then ((g39 k x7_1.1).bind fun x8_17 => some (decide (x8_17 = z11.2))) else (some false)) else (some false)) else (some false)) else (some false)) g12p25 (fun (z11 : Int × Int) => [(12, .vec (x6_1.1).length 3 ((x6_1.1).flatMap e47)), (13, .int .i64 x6_1.2), (14, .vec (x7_1.1).length 3 ((x7_1.1).flatMap e47)), (15, .int .i64 x7_1.2), (16, .int .i64 z11.1), (17, .int .i64 z11.2)]) (fun (z11 : Int × Int) => (mkH [])) (fun z11 => ?_) (fun j11 hj11 => ?_)
   ·let E17 : Env := [(12, .vec (x6_1.1).length 3 ((x6_1.1).flatMap e47)), (13, .int .i64 x6_1.2), (14, .vec (x7_1.1).length 3 ((x7_1.1).flatMap e47)), (15, .int .i64 x7_1.2), (16, .int .i64 z11.1), (17, .int .i64 z11.2)]
    refine oR 1 (p' := (atN 0 (ctl1 g12p25))) (eE := E17) (H' := (mkH [])) (by kernel_rfl) ?_
    refine oC (fun (x8_0 : Bool) => .bool x8_0) (atN 1 (ctl1 g12p25)) (fun x8_0 => ((81, .bool x8_0) :: E17)) (fi := 34) (args := []) (by kernel_rfl) (by kernel_rfl) (fun _ => by kernel_rfl) (fun r h => g34_ok k  r h) (fun _ => by kernel_rfl) (fun x8_0 hx8_0 => ?_)
    refine oR 1 (p' := (atN 2 (ctl1 g12p25))) (eE := ((82, .bool x8_0) :: (81, .bool x8_0) :: E17)) (H' := (mkH [])) (by kernel_rfl) ?_
    refine oS 82 (b := x8_0) (by kernel_rfl) (fun hb => ?_) (fun hb => ?_)
    ·let E18 : Env := ((86, .bool (decide (x6_1.2 = 0))) :: (85, .bool (decide (x6_1.2 = 0))) :: (84, .bool (decide (x6_1.2 = 0))) :: (83, .int .i64 x6_1.2) :: (82, .bool true) :: (82, .bool x8_0) :: (81, .bool x8_0) :: E17)
     refine oR 4 (p' := (atN 6 (ctl1 g12p25))) (eE := E18) (H' := (mkH [])) (by kernel_rfl) ?_
     refine oS 86 (b := decide (x6_1.2 = 0)) (by kernel_rfl) (fun hb => ?_) (fun hb => ?_)
     ·let E19 : Env := ((90, .bool (decide (x7_1.2 = 0))) :: (89, .bool (decide (x7_1.2 = 0))) :: (88, .bool (decide (x7_1.2 = 0))) :: (87, .int .i64 x7_1.2) :: (86, .bool true) :: E18)
      refine oR 4 (p' := (atN 10 (ctl1 g12p25))) (eE := E19) (H' := (mkH [])) (by kernel_rfl) ?_
      refine oS 90 (b := decide (x7_1.2 = 0)) (by kernel_rfl) (fun hb => ?_) (fun hb => ?_)
      ·refine oR 1 (p' := (atN 11 (ctl1 g12p25))) (eE := ((91, .vec (x6_1.1).length 3 ((x6_1.1).flatMap e47)) :: (90, .bool true) :: E19)) (H' := (mkH [])) (by kernel_rfl) ?_
       refine oC (fun (x8_11 : Int) => .int .i64 x8_11) (atN 12 (ctl1 g12p25)) (fun x8_11 => ((92, .int .i64 x8_11) :: (91, .vec (x6_1.1).length 3 ((x6_1.1).flatMap e47)) :: (90, .bool true) :: E19)) (fi := 39) (args := [.vec (x6_1.1).length 3 ((x6_1.1).flatMap e47)]) (by kernel_rfl) (by kernel_rfl) (fun _ => by kernel_rfl) (fun r h => g39_ok k x6_1.1 r h) (fun _ => by kernel_rfl) (fun x8_11 hx8_11 => ?_)
       let E20 : Env := ((96, .bool (decide (x8_11 = z11.1))) :: (95, .bool (decide (x8_11 = z11.1))) :: (94, .bool (decide (x8_11 = z11.1))) :: (93, .int .i64 z11.1) :: (92, .int .i64 x8_11) :: (91, .vec (x6_1.1).length 3 ((x6_1.1).flatMap e47)) :: (90, .bool true) :: E19)
       refine oR 4 (p' := (atN 16 (ctl1 g12p25))) (eE := E20) (H' := (mkH [])) (by kernel_rfl) ?_
       refine oS 96 (b := decide (x8_11 = z11.1)) (by kernel_rfl) (fun hb => ?_) (fun hb => ?_)
       ·refine oR 1 (p' := (atN 17 (ctl1 g12p25))) (eE := ((97, .vec (x7_1.1).length 3 ((x7_1.1).flatMap e47)) :: (96, .bool true) :: E20)) (H' := (mkH [])) (by kernel_rfl) ?_
        refine oC (fun (x8_17 : Int) => .int .i64 x8_17) (atN 18 (ctl1 g12p25)) (fun x8_17 => ((98, .int .i64 x8_17) :: (97, .vec (x7_1.1).length 3 ((x7_1.1).flatMap e47)) :: (96, .bool true) :: E20)) (fi := 39) (args := [.vec (x7_1.1).length 3 ((x7_1.1).flatMap e47)]) (by kernel_rfl) (by kernel_rfl) (fun _ => by kernel_rfl) (fun r h => g39_ok k x7_1.1 r h) (fun _ => by kernel_rfl) (fun x8_17 hx8_17 => ?_)
        let E21 : Env := ((4, .bool (decide (x8_17 = z11.2))) :: (101, .bool (decide (x8_17 = z11.2))) :: (100, .bool (decide (x8_17 = z11.2))) :: (99, .int .i64 z11.2) :: (98, .int .i64 x8_17) :: (97, .vec (x7_1.1).length 3 ((x7_1.1).flatMap e47)) :: (96, .bool true) :: E20)
        refine oR 6 (p' := .fin) (eE := E21) (H' := (mkH [])) (by kernel_rfl) ?_
        exact oT (r := (decide (x8_17 = z11.2))) (xs := [.bool (decide (x8_17 = z11.2))]) (v := .bool (decide (x8_17 = z11.2))) (by kernel_rfl) (by kernel_rfl) (by kernel_rfl) (.pures (by kernel_rfl)) (by kernel_rfl)
       ·let E22 : Env := ((4, .bool false) :: (101, .bool false) :: (100, .tuple []) :: (99, .tuple []) :: (98, .tuple []) :: (97, .tuple []) :: (96, .bool false) :: E20)
        refine oR 8 (p' := .fin) (eE := E22) (H' := (mkH [])) (by kernel_rfl) ?_
        exact oT (r := false) (xs := [.bool false]) (v := .bool false) (by kernel_rfl) (by kernel_rfl) (by kernel_rfl) (.pures (by kernel_rfl)) (by kernel_rfl)
      ·let E23 : Env := ((4, .bool false) :: (101, .bool false) :: (100, .tuple []) :: (99, .tuple []) :: (98, .tuple []) :: (97, .tuple []) :: (96, .bool false) :: (95, .bool false) :: (94, .tuple []) :: (93, .tuple []) :: (92, .tuple []) :: (91, .tuple []) :: (90, .bool false) :: E19)
       refine oR 14 (p' := .fin) (eE := E23) (H' := (mkH [])) (by kernel_rfl) ?_
       exact oT (r := false) (xs := [.bool false]) (v := .bool false) (by kernel_rfl) (by kernel_rfl) (by kernel_rfl) (.pures (by kernel_rfl)) (by kernel_rfl)
     ·let E24 : Env := ((4, .bool false) :: (101, .bool false) :: (100, .tuple []) :: (99, .tuple []) :: (98, .tuple []) :: (97, .tuple []) :: (96, .bool false) :: (95, .bool false) :: (94, .tuple []) :: (93, .tuple []) :: (92, .tuple []) :: (91, .tuple []) :: (90, .bool false) :: (89, .bool false) :: (88, .tuple []) :: (87, .tuple []) :: (86, .bool false) :: E18)
      refine oR 18 (p' := .fin) (eE := E24) (H' := (mkH [])) (by kernel_rfl) ?_
      exact oT (r := false) (xs := [.bool false]) (v := .bool false) (by kernel_rfl) (by kernel_rfl) (by kernel_rfl) (.pures (by kernel_rfl)) (by kernel_rfl)
    ·let E25 : Env := ((4, .bool false) :: (101, .bool false) :: (100, .tuple []) :: (99, .tuple []) :: (98, .tuple []) :: (97, .tuple []) :: (96, .bool false) :: (95, .bool false) :: (94, .tuple []) :: (93, .tuple []) :: (92, .tuple []) :: (91, .tuple []) :: (90, .bool false) :: (89, .bool false) :: (88, .tuple []) :: (87, .tuple []) :: (86, .bool false) :: (85, .bool false) :: (84, .tuple []) :: (83, .tuple []) :: (82, .bool false) :: (82, .bool x8_0) :: (81, .bool x8_0) :: E17)
     refine oR 22 (p' := .fin) (eE := E25) (H' := (mkH [])) (by kernel_rfl) ?_
     exact oT (r := false) (xs := [.bool false]) (v := .bool false) (by kernel_rfl) (by kernel_rfl) (by kernel_rfl) (.pures (by kernel_rfl)) (by kernel_rfl)
   ·refine oS 75 (b := eqL x0_5 [102, 117, 110, 40]) (by kernel_rfl) (fun hb => ?_) (fun hb => ?_)
    ·let E26 : Env := ((17, .int .i64 (fW .i64 (2 * minI (fW .i64 ((fW .u64 a0).tmod 151)) 1))) :: (16, .int .i64 (fW .i64 (2 * fW .i64 ((fW .u64 a0).tmod 151)))) :: (80, .int .i64 (fW .i64 (2 * minI (fW .i64 ((fW .u64 a0).tmod 151)) 1))) :: (79, .int .i64 (minI (fW .i64 ((fW .u64 a0).tmod 151)) 1)) :: (78, .int .i64 (fW .i64 ((fW .u64 a0).tmod 151))) :: (77, .int .i64 (fW .i64 (2 * fW .i64 ((fW .u64 a0).tmod 151)))) :: (76, .int .i64 (fW .i64 ((fW .u64 a0).tmod 151))) :: (75, .bool true) :: E16)
     refine oR 11 (p' := g12p25) (eE := E26) (H' := (mkH [])) (by kernel_rfl) ?_
     refine oK [12, 13, 14, 15, 16, 17] (eE := [(12, .vec (x6_1.1).length 3 ((x6_1.1).flatMap e47)), (13, .int .i64 x6_1.2), (14, .vec (x7_1.1).length 3 ((x7_1.1).flatMap e47)), (15, .int .i64 x7_1.2), (16, .int .i64 (fW .i64 (2 * fW .i64 ((fW .u64 a0).tmod 151)))), (17, .int .i64 (fW .i64 (2 * minI (fW .i64 ((fW .u64 a0).tmod 151)) 1)))]) (by kernel_rfl) ?_
     exact hj11 (fW .i64 (2 * fW .i64 ((fW .u64 a0).tmod 151)), fW .i64 (2 * minI (fW .i64 ((fW .u64 a0).tmod 151)) 1))
    ·refine oR 3 (p' := g12p25) (eE := ((75, .bool false) :: E16)) (H' := (mkH [])) (by kernel_rfl) ?_
     refine oK [12, 13, 14, 15, 16, 17] (eE := [(12, .vec (x6_1.1).length 3 ((x6_1.1).flatMap e47)), (13, .int .i64 x6_1.2), (14, .vec (x7_1.1).length 3 ((x7_1.1).flatMap e47)), (15, .int .i64 x7_1.2), (16, .int .i64 (fW .i64 ((fW .u64 a0).tmod 151))), (17, .int .i64 (minI (fW .i64 ((fW .u64 a0).tmod 151)) 1))]) (by kernel_rfl) ?_
     exact hj11 (fW .i64 ((fW .u64 a0).tmod 151), minI (fW .i64 ((fW .u64 a0).tmod 151)) 1)
def g12_l9 (k : Nat)  (a0 : Int) (x0_5 : (List Nat)) (x1_5 : (List Nat)) (n : Nat) : (List Nat) → (List Nat) → Int → Option Bool :=
 Nat.rec (motive := fun _ => (List Nat) → (List Nat) → Int → Option Bool) (fun _ _ _ => none) (fun _ ih => fun (y9_0 : (List Nat)) (y9_1 : (List Nat)) (y9_2 : Int) => if (decide (y9_2 < fW .i64 ((fW .u64 a0).tmod 151))) then ((catS y9_0 x0_5).bind fun x2_2 => (catS y9_1 x0_5).bind fun x3_2 => (catS x3_2 ([120] : List Nat)).bind fun x3_3 => (catS x3_3 x1_5).bind fun x3_5 => (catS x3_5 ([32] : List Nat)).bind fun x3_6 => ih x2_2 x3_6 (fW .i64 (y9_2 + 1))) else ((catS y9_0 ([120] : List Nat)).bind fun x4_1 => g12_l10 k a0 x0_5 x1_5 k x4_1 y9_1 0)) n
theorem g12_l9_s (k : Nat)  (a0 : Int) (x0_5 : (List Nat)) (x1_5 : (List Nat)) (n : Nat) (y9_0 : (List Nat)) (y9_1 : (List Nat)) (y9_2 : Int) : g12_l9 k a0 x0_5 x1_5 (n + 1) y9_0 y9_1 y9_2 = (if (decide (y9_2 < fW .i64 ((fW .u64 a0).tmod 151))) then ((catS y9_0 x0_5).bind fun x2_2 => (catS y9_1 x0_5).bind fun x3_2 => (catS x3_2 ([120] : List Nat)).bind fun x3_3 => (catS x3_3 x1_5).bind fun x3_5 => (catS x3_5 ([32] : List Nat)).bind fun x3_6 => (g12_l9 k a0 x0_5 x1_5 n) x2_2 x3_6 (fW .i64 (y9_2 + 1))) else ((catS y9_0 ([120] : List Nat)).bind fun x4_1 => g12_l10 k a0 x0_5 x1_5 k x4_1 y9_1 0)) := rfl
theorem g12_l9_ok (k : Nat)  (a0 : Int) (x0_5 : (List Nat)) (x1_5 : (List Nat))  : ∀ (n : Nat) (y9_0 : (List Nat)) (y9_1 : (List Nat)) (y9_2 : Int), Ok X12 g12p6 [(5, .str x0_5), (6, .str x1_5), (7, .int .i64 (fW .i64 ((fW .u64 a0).tmod 151))), (8, .str y9_0), (9, .str y9_1), (10, .int .i64 y9_2)] (mkH []) (g12_l9 k a0 x0_5 x1_5 n y9_0 y9_1 y9_2)
 | 0, _, _, _ => ok_none
 | n + 1, y9_0, y9_1, y9_2 => by
  have ih := g12_l9_ok k a0 x0_5 x1_5 n
  rw [g12_l9_s]
  refine ok_ent (p' := nav [0] g12p6) (by kernel_rfl) ?_
  let E4 : Env := [(38, .bool (decide (y9_2 < fW .i64 ((fW .u64 a0).tmod 151)))), (37, .int .i64 (fW .i64 ((fW .u64 a0).tmod 151))), (36, .int .i64 y9_2), (5, .str x0_5), (6, .str x1_5), (7, .int .i64 (fW .i64 ((fW .u64 a0).tmod 151))), (8, .str y9_0), (9, .str y9_1), (10, .int .i64 y9_2)]
  refine oR 7 (p' := g12p8) (eE := E4) (H' := (mkH [])) (by kernel_rfl) ?_
  refine oS 38 (b := decide (y9_2 < fW .i64 ((fW .u64 a0).tmod 151))) (by kernel_rfl) (fun hb => ?_) (fun hb => ?_)
  ·refine oR 8 (p' := (atN 2 (ctl1 g12p9))) (eE := ((42, .str x0_5) :: (41, .str y9_0) :: (38, .bool true) :: E4)) (H' := (mkH [])) (by kernel_rfl) ?_
   refine oH (fun (x2_2 : (List Nat)) => (.str x2_2, (mkH []))) (atN 3 (ctl1 g12p9)) (fun x2_2 => ((43, .str x2_2) :: (42, .str x0_5) :: (41, .str y9_0) :: (38, .bool true) :: E4)) (catH (by kernel_rfl)) (fun _ => by kernel_rfl) (fun x2_2 hx2_2 => ?_)
   let E5 : Env := ((8, .str x2_2) :: (43, .str x2_2) :: (42, .str x0_5) :: (41, .str y9_0) :: (38, .bool true) :: E4)
   refine oR 2 (p' := g12p11) (eE := E5) (H' := (mkH [])) (by kernel_rfl) ?_
   refine oK [5, 6, 7, 8, 9, 10] (eE := [(5, .str x0_5), (6, .str x1_5), (7, .int .i64 (fW .i64 ((fW .u64 a0).tmod 151))), (8, .str x2_2), (9, .str y9_1), (10, .int .i64 y9_2)]) (by kernel_rfl) ?_
   let E6 : Env := [(45, .str x0_5), (44, .str y9_1), (5, .str x0_5), (6, .str x1_5), (7, .int .i64 (fW .i64 ((fW .u64 a0).tmod 151))), (8, .str x2_2), (9, .str y9_1), (10, .int .i64 y9_2)]
   refine oR 3 (p' := (atN 2 (ctl1 g12p11))) (eE := E6) (H' := (mkH [])) (by kernel_rfl) ?_
   refine oH (fun (x3_2 : (List Nat)) => (.str x3_2, (mkH []))) (atN 3 (ctl1 g12p11)) (fun x3_2 => ((46, .str x3_2) :: E6)) (catH (by kernel_rfl)) (fun _ => by kernel_rfl) (fun x3_2 hx3_2 => ?_)
   refine oH (fun (x3_3 : (List Nat)) => (.str x3_3, (mkH []))) (atN 4 (ctl1 g12p11)) (fun x3_3 => ((47, .str x3_3) :: (46, .str x3_2) :: E6)) (catH (by kernel_rfl)) (fun _ => by kernel_rfl) (fun x3_3 hx3_3 => ?_)
   refine oR 1 (p' := (atN 5 (ctl1 g12p11))) (eE := ((48, .str x1_5) :: (47, .str x3_3) :: (46, .str x3_2) :: E6)) (H' := (mkH [])) (by kernel_rfl) ?_
   refine oH (fun (x3_5 : (List Nat)) => (.str x3_5, (mkH []))) (atN 6 (ctl1 g12p11)) (fun x3_5 => ((49, .str x3_5) :: (48, .str x1_5) :: (47, .str x3_3) :: (46, .str x3_2) :: E6)) (catH (by kernel_rfl)) (fun _ => by kernel_rfl) (fun x3_5 hx3_5 => ?_)
   refine oH (fun (x3_6 : (List Nat)) => (.str x3_6, (mkH []))) (atN 7 (ctl1 g12p11)) (fun x3_6 => ((50, .str x3_6) :: (49, .str x3_5) :: (48, .str x1_5) :: (47, .str x3_3) :: (46, .str x3_2) :: E6)) (catH (by kernel_rfl)) (fun _ => by kernel_rfl) (fun x3_6 hx3_6 => ?_)
   let E7 : Env := ((9, .str x3_6) :: (50, .str x3_6) :: (49, .str x3_5) :: (48, .str x1_5) :: (47, .str x3_3) :: (46, .str x3_2) :: E6)
   refine oR 2 (p' := g12p13) (eE := E7) (H' := (mkH [])) (by kernel_rfl) ?_
   refine oK [5, 6, 7, 8, 9, 10] (eE := [(5, .str x0_5), (6, .str x1_5), (7, .int .i64 (fW .i64 ((fW .u64 a0).tmod 151))), (8, .str x2_2), (9, .str x3_6), (10, .int .i64 y9_2)]) (by kernel_rfl) ?_
   let E8 : Env := [(10, .int .i64 (fW .i64 (y9_2 + 1))), (40, .int .i64 (fW .i64 (y9_2 + 1))), (39, .int .i64 y9_2), (5, .str x0_5), (6, .str x1_5), (7, .int .i64 (fW .i64 ((fW .u64 a0).tmod 151))), (8, .str x2_2), (9, .str x3_6), (10, .int .i64 y9_2)]
   refine oR 5 (p' := g12p6) (eE := E8) (H' := (mkH [])) (by kernel_rfl) ?_
   refine oK [5, 6, 7, 8, 9, 10] (eE := [(5, .str x0_5), (6, .str x1_5), (7, .int .i64 (fW .i64 ((fW .u64 a0).tmod 151))), (8, .str x2_2), (9, .str x3_6), (10, .int .i64 (fW .i64 (y9_2 + 1)))]) (by kernel_rfl) ?_
   exact ih x2_2 x3_6 (fW .i64 (y9_2 + 1))
  ·refine oR 5 (p' := (atN 1 (ctl1 g12p10))) (eE := ((51, .str y9_0) :: (38, .bool false) :: E4)) (H' := (mkH [])) (by kernel_rfl) ?_
   refine oH (fun (x4_1 : (List Nat)) => (.str x4_1, (mkH []))) (atN 2 (ctl1 g12p10)) (fun x4_1 => ((52, .str x4_1) :: (51, .str y9_0) :: (38, .bool false) :: E4)) (catH (by kernel_rfl)) (fun _ => by kernel_rfl) (fun x4_1 hx4_1 => ?_)
   refine oR 4 (p' := g12p12) (eE := ((8, .str x4_1) :: (52, .str x4_1) :: (51, .str y9_0) :: (38, .bool false) :: E4)) (H' := (mkH [])) (by kernel_rfl) ?_
   refine oK [5, 6, 7, 8, 9] (eE := [(5, .str x0_5), (6, .str x1_5), (7, .int .i64 (fW .i64 ((fW .u64 a0).tmod 151))), (8, .str x4_1), (9, .str y9_1)]) (by kernel_rfl) ?_
   let E9 : Env := [(11, .int .i64 0), (5, .str x0_5), (6, .str x1_5), (7, .int .i64 (fW .i64 ((fW .u64 a0).tmod 151))), (8, .str x4_1), (9, .str y9_1)]
   refine oR 5 (p' := g12p14) (eE := E9) (H' := (mkH [])) (by kernel_rfl) ?_
   refine oK [5, 6, 7, 8, 9, 11] (eE := [(5, .str x0_5), (6, .str x1_5), (7, .int .i64 (fW .i64 ((fW .u64 a0).tmod 151))), (8, .str x4_1), (9, .str y9_1), (11, .int .i64 0)]) (by kernel_rfl) ?_
   exact (g12_l10_ok k a0 x0_5 x1_5 k) x4_1 y9_1 0
def g12 (k : Nat) (a0 : Int) (a1 : Int) : Option Bool :=
 (nthL g12c2 (fW .i64 ((fW .u64 a1).tmod 9))).bind fun x0_5 => (nthL g12c3 (fW .i64 ((fW .u64 a1).tmod 9))).bind fun x1_5 => g12_l9 k a0 x0_5 x1_5 k ([] : List Nat) ([] : List Nat) 0
theorem g12_ok (k : Nat) (a0 : Int) (a1 : Int) (r : Bool) (h : g12 k a0 a1 = some r) : PureOk Try.prog 12 [.int .i64 a0, .int .i64 a1] (.bool r) := by
 refine pure_of X12 (fun _ => rfl) Try.func12 (by decide +kernel) (by kernel_rfl) (t := g12 k a0 a1) ?_ h
 unfold g12
 refine oE (eE := [(0, .int .i64 a0), (1, .int .i64 a1)]) (by kernel_rfl) ?_
 refine oR 7 (p' := (atN 1 (ctl1 g12p1))) (eE := [(18, .slice 0 9 0 9 1), (4, .bool false), (0, .int .i64 a0), (1, .int .i64 a1)]) (H' := (mkH [⟨[.str [40], .str [123], .str [91], .str [60, 60], .str g12c0, .str [99, 97, 115, 101, 32], .str [105, 102, 32], .str g12c1, .str [102, 117, 110, 40]], 0, false⟩])) (by kernel_rfl) ?_
 refine ok_frz [⟨[.str [40], .str [123], .str [91], .str [60, 60], .str g12c0, .str [99, 97, 115, 101, 32], .str [105, 102, 32], .str g12c1, .str [102, 117, 110, 40]], 0, false⟩] 18 0 9 1 0 [.str [40], .str [123], .str [91], .str [60, 60], .str g12c0, .str [99, 97, 115, 101, 32], .str [105, 102, 32], .str g12c1, .str [102, 117, 110, 40]] [0, 1, 4] (env0 := [(0, .int .i64 a0), (1, .int .i64 a1), (4, .bool false)]) (by kernel_rfl) rfl (.inl (by kernel_rfl)) rfl rfl (by decide) (by kernel_rfl) (by kernel_rfl) (by kernel_rfl) ⟨.inl rfl, trivial⟩ ?_
 refine oE (eE := [(18, .vec (g12c2).length 1 ((g12c2).flatMap e9)), (0, .int .i64 a0), (1, .int .i64 a1), (4, .bool false)]) (by kernel_rfl) ?_
 refine ok_heap (H' := (mkH [⟨[], 0, false⟩])) (by kernel_rfl) ?_
 let E1 : Env := [(22, .int .i64 (fW .i64 ((fW .u64 a1).tmod 9))), (21, .int .u64 ((fW .u64 a1).tmod 9)), (20, .int .u64 (fW .u64 a1)), (19, .int .i64 a1), (18, .vec (g12c2).length 1 ((g12c2).flatMap e9)), (0, .int .i64 a0), (1, .int .i64 a1), (4, .bool false)]
 refine oR 4 (p' := (atN 5 (ctl1 g12p1))) (eE := E1) (H' := (mkH [⟨[], 0, false⟩])) (by kernel_rfl) ?_
 refine oH (fun (x0_5 : (List Nat)) => (.vptr [.str x0_5], (mkH [⟨[], 0, false⟩]))) (atN 6 (ctl1 g12p1)) (fun x0_5 => ((23, .vptr [.str x0_5]) :: E1)) (vidxH (sz := 1) e9_len (by kernel_rfl)) (fun _ => by kernel_rfl) (fun x0_5 hx0_5 => ?_)
 refine oR 4 (p' := g12p2) (eE := ((5, .str x0_5) :: (24, .str x0_5) :: (23, .vptr [.str x0_5]) :: E1)) (H' := (mkH [⟨[], 0, false⟩])) (by kernel_rfl) ?_
 refine oK [0, 1, 5] (eE := [(0, .int .i64 a0), (1, .int .i64 a1), (5, .str x0_5)]) (by kernel_rfl) ?_
 refine oR 2 (p' := (atN 1 (ctl1 g12p2))) (eE := [(25, .slice 1 9 0 9 1), (0, .int .i64 a0), (1, .int .i64 a1), (5, .str x0_5)]) (H' := (mkH [⟨[], 0, false⟩, ⟨[.str [41], .str [125], .str [93], .str [62, 62], .str [32, 101, 110, 100], .str [32, 101, 110, 100], .str [32, 101, 110, 100], .str [32, 101, 110, 100], .str [41, 32, 101, 110, 100]], 0, false⟩])) (by kernel_rfl) ?_
 refine ok_frz [⟨[], 0, false⟩, ⟨[.str [41], .str [125], .str [93], .str [62, 62], .str [32, 101, 110, 100], .str [32, 101, 110, 100], .str [32, 101, 110, 100], .str [32, 101, 110, 100], .str [41, 32, 101, 110, 100]], 0, false⟩] 25 1 9 1 0 [.str [41], .str [125], .str [93], .str [62, 62], .str [32, 101, 110, 100], .str [32, 101, 110, 100], .str [32, 101, 110, 100], .str [32, 101, 110, 100], .str [41, 32, 101, 110, 100]] [0, 1, 5] (env0 := [(0, .int .i64 a0), (1, .int .i64 a1), (5, .str x0_5)]) (by kernel_rfl) rfl (.inl (by kernel_rfl)) rfl rfl (by decide) (by kernel_rfl) (by kernel_rfl) (by kernel_rfl) ⟨.inr (by kernel_rfl), ⟨.inl rfl, trivial⟩⟩ ?_
 refine oE (eE := [(25, .vec (g12c3).length 1 ((g12c3).flatMap e9)), (0, .int .i64 a0), (1, .int .i64 a1), (5, .str x0_5)]) (by kernel_rfl) ?_
 refine ok_heap (H' := (mkH [⟨[], 0, false⟩, ⟨[], 0, false⟩])) (by kernel_rfl) ?_
 let E2 : Env := [(29, .int .i64 (fW .i64 ((fW .u64 a1).tmod 9))), (28, .int .u64 ((fW .u64 a1).tmod 9)), (27, .int .u64 (fW .u64 a1)), (26, .int .i64 a1), (25, .vec (g12c3).length 1 ((g12c3).flatMap e9)), (0, .int .i64 a0), (1, .int .i64 a1), (5, .str x0_5)]
 refine oR 4 (p' := (atN 5 (ctl1 g12p2))) (eE := E2) (H' := (mkH [⟨[], 0, false⟩, ⟨[], 0, false⟩])) (by kernel_rfl) ?_
 refine oH (fun (x1_5 : (List Nat)) => (.vptr [.str x1_5], (mkH [⟨[], 0, false⟩, ⟨[], 0, false⟩]))) (atN 6 (ctl1 g12p2)) (fun x1_5 => ((30, .vptr [.str x1_5]) :: E2)) (vidxH (sz := 1) e9_len (by kernel_rfl)) (fun _ => by kernel_rfl) (fun x1_5 hx1_5 => ?_)
 refine oR 4 (p' := g12p3) (eE := ((6, .str x1_5) :: (31, .str x1_5) :: (30, .vptr [.str x1_5]) :: E2)) (H' := (mkH [⟨[], 0, false⟩, ⟨[], 0, false⟩])) (by kernel_rfl) ?_
 refine oK [0, 5, 6] (eE := [(0, .int .i64 a0), (5, .str x0_5), (6, .str x1_5)]) (by kernel_rfl) ?_
 let E3 : Env := [(10, .int .i64 0), (9, .str []), (8, .str []), (7, .int .i64 (fW .i64 ((fW .u64 a0).tmod 151))), (35, .int .i64 (fW .i64 ((fW .u64 a0).tmod 151))), (34, .int .u64 ((fW .u64 a0).tmod 151)), (33, .int .u64 (fW .u64 a0)), (32, .int .i64 a0), (0, .int .i64 a0), (5, .str x0_5), (6, .str x1_5)]
 refine oR 19 (p' := g12p6) (eE := E3) (H' := (mkH [⟨[], 0, false⟩, ⟨[], 0, false⟩])) (by kernel_rfl) ?_
 refine oK [5, 6, 7, 8, 9, 10] (eE := [(5, .str x0_5), (6, .str x1_5), (7, .int .i64 (fW .i64 ((fW .u64 a0).tmod 151))), (8, .str []), (9, .str []), (10, .int .i64 0)]) (by kernel_rfl) ?_
 refine ok_cut [] [⟨[], 0, false⟩, ⟨[], 0, false⟩] (by kernel_rfl) rfl (by kernel_rfl) trivial ?_
 exact (g12_l9_ok k a0 x0_5 x1_5 k) ([] : List Nat) ([] : List Nat) 0
end
end Go.Proofs.Ytbmijiibfaacmaa.Am
set_option maxRecDepth 100000
set_option linter.unusedVariables false
set_option linter.unusedSimpArgs false
namespace Go.Proofs.Ytbmijiibfaacmaa.Am
open Go
theorem told7 (k : Nat) : g34 (k + 60) = some true := by kernel_rfl
def rp {α : Type} : Nat → List α → List α
 | 0, _ => []
 | j + 1, p => p ++ rp j p
theorem rp_snoc {α : Type} (p : List α) : ∀ j, rp j p ++ p = rp (j + 1) p
 | 0 => by simp [rp]
 | j + 1 => by rw [rp, List.append_assoc, rp_snoc p j]; rfl
theorem rp_len {α : Type} (p : List α) : ∀ j, (rp j p).length = j * p.length
 | 0 => by simp [rp]
 | j + 1 => by rw [rp, List.length_append, rp_len p j, Nat.add_mul]; omega
theorem rp_mem {α : Type} {p : List α} {x : α} : ∀ {j}, x ∈ rp j p → x ∈ p
 | 0, h => by cases h
 | j + 1, h => by
  rw [rp] at h
  exact (List.mem_append.1 h).elim id rp_mem
abbrev xT : Tx := (1, [120])
structure Pr (op sh : List Nat) (Ko Ks : List Tx) (c : Nat) : Prop where
 o : ∀ r K, Sx r K → Sx (op ++ r) (Ko ++ K)
 x : ∀ r K, Sx (sh ++ r) K → Sx (120 :: (sh ++ r)) (xT :: K)
 s : ∀ r K, (r = [] ∨ (∃ r', r = sh ++ r') ∨ ∃ r', r = 32 :: r') → Sx r K → Sx (sh ++ r) (Ks ++ K)
 a : (op ++ sh).all (fun b => decide (b < 128)) = true
 tk : (Ko ++ Ks).all (fun t => decide (t ∈ tkL)) = true
 dO : ∀ R n, dN (Ko ++ R) n n = dN R (n + c) (n + c)
 dU : ∀ R m, dN (Ko ++ xT :: (Ks ++ R)) 0 m = dN R 0 (max m c)
 dS : ∀ R n m, n ≤ m → ∃ n', n' ≤ m ∧ dN (Ks ++ R) n m = dN R n' m
 lo : op.length ≤ 8
 ls : sh.length ≤ 5
 cc : c = if eqL op [102, 117, 110, 40] = true then 2 else 1
theorem pr0 : Pr [40] [41] [(9, [40])] [(9, [41])] 1 := by
 refine ⟨fun r K h => ?_, fun r K h => ?_, fun r K hc h => ?_, by decide, by decide, fun R n => ?_, fun R m => ?_, fun R n m h => ?_, by decide, by decide, by decide⟩
 ·exact (sx_tok (c := 40) (u := []) (r := r) (k := 9) rfl (by kernel_rfl) h)
 ·exact sx_tok (c := 120) (u := []) (r := [41] ++ r) (k := 1) rfl (by kernel_rfl) h
 ·exact (sx_tok (c := 41) (u := []) (r := r) (k := 9) rfl (by kernel_rfl) h)
 ·have e : dN ([(9, [40])] ++ R) n n = dN R (n + 1) (max n (n + 1)) := by kernel_rfl
  rw [e, show (max n (n + 1)) = n + 1 by omega]
 ·have e : dN ([(9, [40])] ++ xT :: ([(9, [41])] ++ R)) 0 m = dN R 0 (max (max (max m 1) 1) 0) := by cases R <;> kernel_rfl
  rw [e, show (max (max (max m 1) 1) 0) = max m 1 by omega]
 ·have e : dN ([(9, [41])] ++ R) n m = dN R (n - 1) (max m (n - 1)) := by cases R <;> kernel_rfl
  exact ⟨n - 1, by omega, by rw [e, show (max m (n - 1)) = m by omega]⟩
theorem pr1 : Pr [123] [125] [(9, [123])] [(9, [125])] 1 := by
 refine ⟨fun r K h => ?_, fun r K h => ?_, fun r K hc h => ?_, by decide, by decide, fun R n => ?_, fun R m => ?_, fun R n m h => ?_, by decide, by decide, by decide⟩
 ·exact (sx_tok (c := 123) (u := []) (r := r) (k := 9) rfl (by kernel_rfl) h)
 ·exact sx_tok (c := 120) (u := []) (r := [125] ++ r) (k := 1) rfl (by kernel_rfl) h
 ·exact (sx_tok (c := 125) (u := []) (r := r) (k := 9) rfl (by kernel_rfl) h)
 ·have e : dN ([(9, [123])] ++ R) n n = dN R (n + 1) (max n (n + 1)) := by kernel_rfl
  rw [e, show (max n (n + 1)) = n + 1 by omega]
 ·have e : dN ([(9, [123])] ++ xT :: ([(9, [125])] ++ R)) 0 m = dN R 0 (max (max (max m 1) 1) 0) := by cases R <;> kernel_rfl
  rw [e, show (max (max (max m 1) 1) 0) = max m 1 by omega]
 ·have e : dN ([(9, [125])] ++ R) n m = dN R (n - 1) (max m (n - 1)) := by cases R <;> kernel_rfl
  exact ⟨n - 1, by omega, by rw [e, show (max m (n - 1)) = m by omega]⟩
theorem pr2 : Pr [91] [93] [(9, [91])] [(9, [93])] 1 := by
 refine ⟨fun r K h => ?_, fun r K h => ?_, fun r K hc h => ?_, by decide, by decide, fun R n => ?_, fun R m => ?_, fun R n m h => ?_, by decide, by decide, by decide⟩
 ·exact (sx_tok (c := 91) (u := []) (r := r) (k := 9) rfl (by kernel_rfl) h)
 ·exact sx_tok (c := 120) (u := []) (r := [93] ++ r) (k := 1) rfl (by kernel_rfl) h
 ·exact (sx_tok (c := 93) (u := []) (r := r) (k := 9) rfl (by kernel_rfl) h)
 ·have e : dN ([(9, [91])] ++ R) n n = dN R (n + 1) (max n (n + 1)) := by kernel_rfl
  rw [e, show (max n (n + 1)) = n + 1 by omega]
 ·have e : dN ([(9, [91])] ++ xT :: ([(9, [93])] ++ R)) 0 m = dN R 0 (max (max (max m 1) 1) 0) := by cases R <;> kernel_rfl
  rw [e, show (max (max (max m 1) 1) 0) = max m 1 by omega]
 ·have e : dN ([(9, [93])] ++ R) n m = dN R (n - 1) (max m (n - 1)) := by cases R <;> kernel_rfl
  exact ⟨n - 1, by omega, by rw [e, show (max m (n - 1)) = m by omega]⟩
theorem pr3 : Pr [60, 60] [62, 62] [(9, [60, 60])] [(9, [62, 62])] 1 := by
 refine ⟨fun r K h => ?_, fun r K h => ?_, fun r K hc h => ?_, by decide, by decide, fun R n => ?_, fun R m => ?_, fun R n m h => ?_, by decide, by decide, by decide⟩
 ·exact (sx_tok (c := 60) (u := [60]) (r := r) (k := 9) rfl (by kernel_rfl) h)
 ·exact sx_tok (c := 120) (u := []) (r := [62, 62] ++ r) (k := 1) rfl (by kernel_rfl) h
 ·exact (sx_tok (c := 62) (u := [62]) (r := r) (k := 9) rfl (by kernel_rfl) h)
 ·have e : dN ([(9, [60, 60])] ++ R) n n = dN R (n + 1) (max n (n + 1)) := by kernel_rfl
  rw [e, show (max n (n + 1)) = n + 1 by omega]
 ·have e : dN ([(9, [60, 60])] ++ xT :: ([(9, [62, 62])] ++ R)) 0 m = dN R 0 (max (max (max m 1) 1) 0) := by cases R <;> kernel_rfl
  rw [e, show (max (max (max m 1) 1) 0) = max m 1 by omega]
 ·have e : dN ([(9, [62, 62])] ++ R) n m = dN R (n - 1) (max m (n - 1)) := by cases R <;> kernel_rfl
  exact ⟨n - 1, by omega, by rw [e, show (max m (n - 1)) = m by omega]⟩
theorem pr4 : Pr [98, 101, 103, 105, 110, 32] [32, 101, 110, 100] [(8, [98, 101, 103, 105, 110])] [(8, [101, 110, 100])] 1 := by
 refine ⟨fun r K h => ?_, fun r K h => ?_, fun r K hc h => ?_, by decide, by decide, fun R n => ?_, fun R m => ?_, fun R n m h => ?_, by decide, by decide, by decide⟩
 ·exact (sx_tok (c := 98) (u := [101, 103, 105, 110]) (r := ([32] ++ r)) (k := 8) rfl (by kernel_rfl) (sx_blk rfl h))
 ·exact sx_tok (c := 120) (u := []) (r := [32, 101, 110, 100] ++ r) (k := 1) rfl (by kernel_rfl) h
 ·have he : oneN ([101, 110, 100] ++ r) = (3, 8) := by
   rcases hc with rfl | ⟨r', rfl⟩ | ⟨r', rfl⟩ <;> kernel_rfl
  exact (sx_blk rfl (sx_tok (c := 101) (u := [110, 100]) (r := r) (k := 8) rfl he h))
 ·have e : dN ([(8, [98, 101, 103, 105, 110])] ++ R) n n = dN R (n + 1) (max n (n + 1)) := by kernel_rfl
  rw [e, show (max n (n + 1)) = n + 1 by omega]
 ·have e : dN ([(8, [98, 101, 103, 105, 110])] ++ xT :: ([(8, [101, 110, 100])] ++ R)) 0 m = dN R 0 (max (max (max m 1) 1) 0) := by cases R <;> kernel_rfl
  rw [e, show (max (max (max m 1) 1) 0) = max m 1 by omega]
 ·have e : dN ([(8, [101, 110, 100])] ++ R) n m = dN R (n - 1) (max m (n - 1)) := by cases R <;> kernel_rfl
  exact ⟨n - 1, by omega, by rw [e, show (max m (n - 1)) = m by omega]⟩
theorem pr5 : Pr [99, 97, 115, 101, 32] [32, 101, 110, 100] [(8, [99, 97, 115, 101])] [(8, [101, 110, 100])] 1 := by
 refine ⟨fun r K h => ?_, fun r K h => ?_, fun r K hc h => ?_, by decide, by decide, fun R n => ?_, fun R m => ?_, fun R n m h => ?_, by decide, by decide, by decide⟩
 ·exact (sx_tok (c := 99) (u := [97, 115, 101]) (r := ([32] ++ r)) (k := 8) rfl (by kernel_rfl) (sx_blk rfl h))
 ·exact sx_tok (c := 120) (u := []) (r := [32, 101, 110, 100] ++ r) (k := 1) rfl (by kernel_rfl) h
 ·have he : oneN ([101, 110, 100] ++ r) = (3, 8) := by
   rcases hc with rfl | ⟨r', rfl⟩ | ⟨r', rfl⟩ <;> kernel_rfl
  exact (sx_blk rfl (sx_tok (c := 101) (u := [110, 100]) (r := r) (k := 8) rfl he h))
 ·have e : dN ([(8, [99, 97, 115, 101])] ++ R) n n = dN R (n + 1) (max n (n + 1)) := by kernel_rfl
  rw [e, show (max n (n + 1)) = n + 1 by omega]
 ·have e : dN ([(8, [99, 97, 115, 101])] ++ xT :: ([(8, [101, 110, 100])] ++ R)) 0 m = dN R 0 (max (max (max m 1) 1) 0) := by cases R <;> kernel_rfl
  rw [e, show (max (max (max m 1) 1) 0) = max m 1 by omega]
 ·have e : dN ([(8, [101, 110, 100])] ++ R) n m = dN R (n - 1) (max m (n - 1)) := by cases R <;> kernel_rfl
  exact ⟨n - 1, by omega, by rw [e, show (max m (n - 1)) = m by omega]⟩
theorem pr6 : Pr [105, 102, 32] [32, 101, 110, 100] [(8, [105, 102])] [(8, [101, 110, 100])] 1 := by
 refine ⟨fun r K h => ?_, fun r K h => ?_, fun r K hc h => ?_, by decide, by decide, fun R n => ?_, fun R m => ?_, fun R n m h => ?_, by decide, by decide, by decide⟩
 ·exact (sx_tok (c := 105) (u := [102]) (r := ([32] ++ r)) (k := 8) rfl (by kernel_rfl) (sx_blk rfl h))
 ·exact sx_tok (c := 120) (u := []) (r := [32, 101, 110, 100] ++ r) (k := 1) rfl (by kernel_rfl) h
 ·have he : oneN ([101, 110, 100] ++ r) = (3, 8) := by
   rcases hc with rfl | ⟨r', rfl⟩ | ⟨r', rfl⟩ <;> kernel_rfl
  exact (sx_blk rfl (sx_tok (c := 101) (u := [110, 100]) (r := r) (k := 8) rfl he h))
 ·have e : dN ([(8, [105, 102])] ++ R) n n = dN R (n + 1) (max n (n + 1)) := by kernel_rfl
  rw [e, show (max n (n + 1)) = n + 1 by omega]
 ·have e : dN ([(8, [105, 102])] ++ xT :: ([(8, [101, 110, 100])] ++ R)) 0 m = dN R 0 (max (max (max m 1) 1) 0) := by cases R <;> kernel_rfl
  rw [e, show (max (max (max m 1) 1) 0) = max m 1 by omega]
 ·have e : dN ([(8, [101, 110, 100])] ++ R) n m = dN R (n - 1) (max m (n - 1)) := by cases R <;> kernel_rfl
  exact ⟨n - 1, by omega, by rw [e, show (max m (n - 1)) = m by omega]⟩
theorem pr7 : Pr [114, 101, 99, 101, 105, 118, 101, 32] [32, 101, 110, 100] [(8, [114, 101, 99, 101, 105, 118, 101])] [(8, [101, 110, 100])] 1 := by
 refine ⟨fun r K h => ?_, fun r K h => ?_, fun r K hc h => ?_, by decide, by decide, fun R n => ?_, fun R m => ?_, fun R n m h => ?_, by decide, by decide, by decide⟩
 ·exact (sx_tok (c := 114) (u := [101, 99, 101, 105, 118, 101]) (r := ([32] ++ r)) (k := 8) rfl (by kernel_rfl) (sx_blk rfl h))
 ·exact sx_tok (c := 120) (u := []) (r := [32, 101, 110, 100] ++ r) (k := 1) rfl (by kernel_rfl) h
 ·have he : oneN ([101, 110, 100] ++ r) = (3, 8) := by
   rcases hc with rfl | ⟨r', rfl⟩ | ⟨r', rfl⟩ <;> kernel_rfl
  exact (sx_blk rfl (sx_tok (c := 101) (u := [110, 100]) (r := r) (k := 8) rfl he h))
 ·have e : dN ([(8, [114, 101, 99, 101, 105, 118, 101])] ++ R) n n = dN R (n + 1) (max n (n + 1)) := by kernel_rfl
  rw [e, show (max n (n + 1)) = n + 1 by omega]
 ·have e : dN ([(8, [114, 101, 99, 101, 105, 118, 101])] ++ xT :: ([(8, [101, 110, 100])] ++ R)) 0 m = dN R 0 (max (max (max m 1) 1) 0) := by cases R <;> kernel_rfl
  rw [e, show (max (max (max m 1) 1) 0) = max m 1 by omega]
 ·have e : dN ([(8, [101, 110, 100])] ++ R) n m = dN R (n - 1) (max m (n - 1)) := by cases R <;> kernel_rfl
  exact ⟨n - 1, by omega, by rw [e, show (max m (n - 1)) = m by omega]⟩
theorem pr8 : Pr [102, 117, 110, 40] [41, 32, 101, 110, 100] [(8, [102, 117, 110]), (9, [40])] [(9, [41]), (8, [101, 110, 100])] 2 := by
 refine ⟨fun r K h => ?_, fun r K h => ?_, fun r K hc h => ?_, by decide, by decide, fun R n => ?_, fun R m => ?_, fun R n m h => ?_, by decide, by decide, by decide⟩
 ·exact (sx_tok (c := 102) (u := [117, 110]) (r := ([40] ++ r)) (k := 8) rfl (by kernel_rfl) (sx_tok (c := 40) (u := []) (r := r) (k := 9) rfl (by kernel_rfl) h))
 ·exact sx_tok (c := 120) (u := []) (r := [41, 32, 101, 110, 100] ++ r) (k := 1) rfl (by kernel_rfl) h
 ·have he : oneN ([101, 110, 100] ++ r) = (3, 8) := by
   rcases hc with rfl | ⟨r', rfl⟩ | ⟨r', rfl⟩ <;> kernel_rfl
  exact (sx_tok (c := 41) (u := []) (r := ([32, 101, 110, 100] ++ r)) (k := 9) rfl (by kernel_rfl) (sx_blk rfl (sx_tok (c := 101) (u := [110, 100]) (r := r) (k := 8) rfl he h)))
 ·have e : dN ([(8, [102, 117, 110]), (9, [40])] ++ R) n n = dN R (n + 2) (max (max n (n + 1)) (n + 2)) := by kernel_rfl
  rw [e, show (max (max n (n + 1)) (n + 2)) = n + 2 by omega]
 ·have e : dN ([(8, [102, 117, 110]), (9, [40])] ++ xT :: ([(9, [41]), (8, [101, 110, 100])] ++ R)) 0 m = dN R 0 (max (max (max (max (max m 1) 2) 2) 1) 0) := by cases R <;> kernel_rfl
  rw [e, show (max (max (max (max (max m 1) 2) 2) 1) 0) = max m 2 by omega]
 ·have e : dN ([(9, [41]), (8, [101, 110, 100])] ++ R) n m = dN R (n - 1 - 1) (max (max m (n - 1)) (n - 1 - 1)) := by cases R <;> kernel_rfl
  exact ⟨n - 1 - 1, by omega, by rw [e, show (max (max m (n - 1)) (n - 1 - 1)) = m by omega]⟩
section
variable {op sh : List Nat} {Ko Ks : List Tx} {c : Nat} (P : Pr op sh Ko Ks c)
include P
theorem sx_shut : ∀ j, Sx (rp j sh) (rp j Ks)
 | 0 => by simp [rp, Sx]
 | j + 1 => by
  rw [rp, rp]
  refine P.s _ _ ?_ (sx_shut j)
  cases j with
  | zero => exact .inl rfl
  | succ j => exact .inr (.inl ⟨rp j sh, rfl⟩)
theorem sx_mid (j : Nat) : Sx (120 :: rp j sh) (xT :: rp j Ks) := by
 cases j with
 | zero => exact sx_tok (c := 120) (u := []) (r := []) (k := 1) rfl (by kernel_rfl) (by simp [Sx, rp])
 | succ j => exact P.x _ _ (sx_shut P (j + 1))
theorem sx_open {r : List Nat} {K : List Tx} (h : Sx r K) : ∀ j, Sx (rp j op ++ r) (rp j Ko ++ K)
 | 0 => h
 | j + 1 => by
  rw [rp, rp, List.append_assoc, List.append_assoc]
  exact P.o _ _ (sx_open h j)
theorem sx_flat : ∀ j, Sx (rp j (op ++ 120 :: (sh ++ [32]))) (rp j (Ko ++ xT :: Ks))
 | 0 => by simp [rp, Sx]
 | j + 1 => by
  rw [rp, rp, List.append_assoc, List.append_assoc, List.cons_append, List.cons_append, List.append_assoc]
  exact P.o _ _ (P.x _ _ (P.s _ _ (.inr (.inr ⟨_, rfl⟩)) (sx_blk rfl (sx_flat j))))
theorem d_open (R : List Tx) : ∀ j n, dN (rp j Ko ++ R) n n = dN R (n + c * j) (n + c * j)
 | 0, n => by simp [rp]
 | j + 1, n => by
  rw [rp, List.append_assoc, P.dO, d_open R j (n + c), Nat.mul_add, show n + c + c * j = n + (c * j + c * 1) by omega]
theorem d_shut : ∀ j n m, n ≤ m → dN (rp j Ks) n m = m
 | 0, n, m, h => rfl
 | j + 1, n, m, h => by
  rw [rp]
  obtain ⟨n', h1, h2⟩ := P.dS (rp j Ks) n m h
  rw [h2]
  exact d_shut j n' m h1
theorem d_deep (j : Nat) : dN (rp j Ko ++ xT :: rp j Ks) 0 0 = c * j := by
 rw [d_open P, Nat.zero_add]
 have e : ∀ R n m, n ≤ m → dN (xT :: R) n m = dN R n m := fun R n m h => by
  have e : dN (xT :: R) n m = dN R n (max m n) := by cases R <;> kernel_rfl
  rw [e, show max m n = m by omega]
 rw [e _ _ _ (Nat.le_refl _)]
 exact d_shut P j _ _ (Nat.le_refl _)
theorem d_more : ∀ j m, c ≤ m → dN (rp j (Ko ++ xT :: Ks)) 0 m = m
 | 0, m, h => rfl
 | j + 1, m, h => by
  rw [rp, List.append_assoc, List.cons_append, P.dU, show max m c = m by omega]
  exact d_more j m h
theorem d_flat (j : Nat) : dN (rp j (Ko ++ xT :: Ks)) 0 0 = if j = 0 then 0 else c := by
 cases j with
 | zero => rfl
 | succ j =>
  rw [rp, List.append_assoc, List.cons_append, P.dU, show max 0 c = c by omega, d_more P j c (Nat.le_refl _)]
  rfl
theorem tk_in {t : Tx} (h : t ∈ Ko ∨ t ∈ Ks) : t ∈ tkL := of_decide_eq_true (List.all_eq_true.1 P.tk t (List.mem_append.2 h))
theorem as_in {b : Nat} (h : b ∈ op ∨ b ∈ sh) : b < 128 := of_decide_eq_true (List.all_eq_true.1 P.a b (List.mem_append.2 h))
theorem lens (j : Nat) (hj : j ≤ 150) : j * op.length ≤ 1200 ∧ j * sh.length ≤ 750 ∧ j * (op ++ 120 :: (sh ++ [32])).length ≤ 2250 := by
 have h1 : j * op.length ≤ 150 * 8 := Nat.mul_le_mul hj P.lo
 have h2 : j * sh.length ≤ 150 * 5 := Nat.mul_le_mul hj P.ls
 have h3 : j * (op ++ 120 :: (sh ++ [32])).length ≤ 150 * 15 := Nat.mul_le_mul hj (by have := P.lo; have := P.ls; simp only [List.length_append, List.length_cons, List.length_nil]; omega)
 omega
theorem nests_3 (k : Nat) (hk : 6000 ≤ k) {a0 : Int} {q : Nat} (hq : q ≤ 150) (e0 : fW .i64 ((fW .u64 a0).tmod 151) = (q : Int)) : ∀ (d j f : Nat), j + d = q → d < f →
 g12_l10 (k + 60) a0 op sh f (rp q op ++ 120 :: rp j sh) (rp q (op ++ 120 :: (sh ++ [32]))) (j : Int) = some true
 | d, j, 0, h, hf => by omega
 | d + 1, j, f + 1, h, hf => by
  have ih := nests_3 k hk hq e0 d (j + 1) f (by omega) (by omega)
  obtain ⟨l1, -, -⟩ := lens P q hq
  obtain ⟨-, l2, -⟩ := lens P j (by omega)
  have ls := P.ls
  rw [g12_l10_s, e0]
  refine iT (dT (by omega)) ?_
  have c1 : catS (rp q op ++ 120 :: rp j sh) sh = some (rp q op ++ 120 :: rp (j + 1) sh) := by
   unfold catS
   rw [if_pos (by simp only [List.length_append, List.length_cons, rp_len]; omega), List.append_assoc, List.cons_append, rp_snoc]
  refine bS (by (try simp (disch := omega) only [fwI]); exact c1) ?_
  rw [fw_s (by omega)]
  exact ih
 | 0, j, f + 1, h, hf => by
  obtain rfl : j = q := by omega
  obtain ⟨l1, l2, l3⟩ := lens P j hq
  rw [g12_l10_s, e0]
  refine iF (dF (by omega)) ?_
  have a1 : ∀ b ∈ rp j op ++ 120 :: rp j sh, b < 128 := fun b hb => by
   rcases List.mem_append.1 hb with h | h
   ·exact as_in P (.inl (rp_mem h))
   ·rcases List.mem_cons.1 h with rfl | h
    ·omega
    ·exact as_in P (.inr (rp_mem h))
  have a2 : ∀ b ∈ rp j (op ++ 120 :: (sh ++ [32])), b < 128 := fun b hb => by
   have h := rp_mem hb
   rcases List.mem_append.1 h with h | h
   ·exact as_in P (.inl h)
   ·rcases List.mem_cons.1 h with rfl | h
    ·omega
    ·rcases List.mem_append.1 h with h | h
     ·exact as_in P (.inr h)
     ·rw [List.mem_singleton.1 h]; omega
  have t1 : ∀ t ∈ rp j Ko ++ xT :: rp j Ks, t ∈ tkL := fun t ht => by
   rcases List.mem_append.1 ht with h | h
   ·exact tk_in P (.inl (rp_mem h))
   ·rcases List.mem_cons.1 h with rfl | h
    ·decide
    ·exact tk_in P (.inr (rp_mem h))
  have t2 : ∀ t ∈ rp j (Ko ++ xT :: Ks), t ∈ tkL := fun t ht => by
   have h := rp_mem ht
   rcases List.mem_append.1 h with h | h
   ·exact tk_in P (.inl h)
   ·rcases List.mem_cons.1 h with rfl | h
    ·decide
    ·exact tk_in P (.inr h)
  have n1 : (rp j op ++ 120 :: rp j sh).length ≤ 1951 := by simp only [List.length_append, List.length_cons, rp_len]; omega
  have n2 : (rp j (op ++ 120 :: (sh ++ [32]))).length ≤ 2250 := by rw [rp_len]; exact l3
  obtain ⟨p1, p2⟩ := deep_of (k := k + 60) (by omega) (by omega) a1 (sx_open P (sx_mid P j) j) t1
  obtain ⟨p3, p4⟩ := deep_of (k := k + 60) (by omega) (by omega) a2 (sx_flat P j) t2
  rw [d_deep P] at p2
  rw [d_flat P] at p4
  have cc := P.cc
  generalize rp j op ++ 120 :: rp j sh = s1 at *
  generalize rp j (op ++ 120 :: (sh ++ [32])) = s2 at *
  refine bS (by (try simp (disch := omega) only [fwI]); exact rscan_at (k := k + 60) (s := s1) (by omega) (fun b hb => by have := a1 b hb; omega) (show s1.length ≤ _ by omega)) ?_
  refine bS (by (try simp (disch := omega) only [fwI]); exact rscan_at (k := k + 60) (s := s2) (by omega) (fun b hb => by have := a2 b hb; omega) (show s2.length ≤ _ by omega)) ?_
  refine (jS (v := (((c * j : Nat) : Int), (((if j = 0 then 0 else c) : Nat) : Int))) (fun t => ?_)).trans ?_
  ·have m1 : minI (j : Int) 1 = ((if j = 0 then 0 else 1 : Nat) : Int) := by unfold minI; split <;> split <;> omega
   by_cases hf4 : eqL op [102, 117, 110, 40] = true
   ·rw [if_pos hf4] at cc
    subst cc
    refine iT hf4 ?_
    rw [m1, fwI (n := 2 * (j : Int)) (by omega) (by omega), fwI (n := 2 * (((if j = 0 then 0 else 1) : Nat) : Int)) (by split <;> omega) (by split <;> omega)]
    refine congrArg t ?_
    refine Prod.ext ?_ ?_
    ·show 2 * (j : Int) = ((2 * j : Nat) : Int); omega
    ·show 2 * (((if j = 0 then 0 else 1) : Nat) : Int) = (((if j = 0 then 0 else 2) : Nat) : Int); split <;> omega
   ·rw [if_neg hf4] at cc
    subst cc
    refine iF (Bool.eq_false_iff.2 hf4) ?_
    rw [m1, Nat.one_mul]
  ·refine bS (by (try simp (disch := omega) only [fwI]); exact told7 k) ?_
   refine iT rfl ?_
   refine iT (dT (by rw [p1])) ?_
   refine iT (dT (by rw [p3])) ?_
   refine bS (by (try simp (disch := omega) only [fwI]); exact p2) ?_
   refine iT (dT rfl) ?_
   refine bS (by (try simp (disch := omega) only [fwI]); exact p4) ?_
   rw [dT rfl]
theorem nests_2 (k : Nat) (hk : 6000 ≤ k) {a0 : Int} {q : Nat} (hq : q ≤ 150) (e0 : fW .i64 ((fW .u64 a0).tmod 151) = (q : Int)) : ∀ (d j f : Nat), j + d = q → d < f →
 g12_l9 (k + 60) a0 op sh f (rp j op) (rp j (op ++ 120 :: (sh ++ [32]))) (j : Int) = some true
 | d, j, 0, h, hf => by omega
 | d + 1, j, f + 1, h, hf => by
  have ih := nests_2 k hk hq e0 d (j + 1) f (by omega) (by omega)
  obtain ⟨l1, -, l3⟩ := lens P j (by omega)
  have ls := P.ls
  have lo := P.lo
  have n3 : (rp j (op ++ 120 :: (sh ++ [32]))).length ≤ 2250 := by rw [rp_len]; exact l3
  rw [g12_l9_s, e0]
  refine iT (dT (by omega)) ?_
  have c1 : catS (rp j op) op = some (rp (j + 1) op) := by
   unfold catS
   rw [if_pos (by rw [rp_len]; omega), rp_snoc]
  refine bS (by (try simp (disch := omega) only [fwI]); exact c1) ?_
  have s1 := rp_snoc (op ++ 120 :: (sh ++ [32])) j
  generalize rp j (op ++ 120 :: (sh ++ [32])) = y at *
  have c2 : catS y op = some (y ++ op) := by unfold catS; rw [if_pos (by omega)]
  refine bS (by (try simp (disch := omega) only [fwI]); exact c2) ?_
  have c3 : catS (y ++ op) [120] = some (y ++ op ++ [120]) := by unfold catS; rw [if_pos (by simp only [List.length_append, List.length_cons, List.length_nil]; omega)]
  refine bS (by (try simp (disch := omega) only [fwI]); exact c3) ?_
  have c4 : catS (y ++ op ++ [120]) sh = some (y ++ op ++ [120] ++ sh) := by unfold catS; rw [if_pos (by simp only [List.length_append, List.length_cons, List.length_nil]; omega)]
  refine bS (by (try simp (disch := omega) only [fwI]); exact c4) ?_
  have c5 : catS (y ++ op ++ [120] ++ sh) [32] = some (rp (j + 1) (op ++ 120 :: (sh ++ [32]))) := by
   unfold catS
   rw [if_pos (by simp only [List.length_append, List.length_cons, List.length_nil]; omega), ← s1]
   simp only [List.append_assoc, List.singleton_append]; rfl
  refine bS (by (try simp (disch := omega) only [fwI]); exact c5) ?_
  rw [fw_s (by omega)]
  exact ih
 | 0, j, f + 1, h, hf => by
  obtain rfl : j = q := by omega
  obtain ⟨l1, -, -⟩ := lens P j hq
  rw [g12_l9_s, e0]
  refine iF (dF (by omega)) ?_
  have c1 : catS (rp j op) [120] = some (rp j op ++ 120 :: rp 0 sh) := by
   unfold catS
   rw [if_pos (by rw [rp_len, List.length_singleton]; omega)]; rfl
  refine bS (by (try simp (disch := omega) only [fwI]); exact c1) ?_
  exact nests_3 P k hk hq e0 j 0 (k + 60) (by omega) (by omega)
end
theorem gapNests_true (a0 a1 : Int) : ∃ k, g12 k a0 a1 = some true := by
 refine ⟨6000 + 60, ?_⟩
 obtain ⟨q, hq, e, -⟩ := tmod_at a0 151 (by omega) (by omega)
 have e0 : fW .i64 ((fW .u64 a0).tmod 151) = (q : Int) := by
  have e : (fW .u64 a0).tmod 151 = (q : Int) := e
  rw [e, fwI (by omega) (by omega)]
 obtain ⟨w, hw, f, -⟩ := tmod_at a1 9 (by omega) (by omega)
 have f0 : fW .i64 ((fW .u64 a1).tmod 9) = (w : Int) := by
  have f : (fW .u64 a1).tmod 9 = (w : Int) := f
  rw [f, fwI (by omega) (by omega)]
 unfold g12
 rw [f0]
 have key : ∀ {op sh : List Nat} {Ko Ks : List Tx} {c : Nat}, Pr op sh Ko Ks c → nthL g12c2 (w : Int) = some op → nthL g12c3 (w : Int) = some sh →
  ((nthL g12c2 (w : Int)).bind fun x0_5 => (nthL g12c3 (w : Int)).bind fun x1_5 => g12_l9 (6000 + 60) a0 x0_5 x1_5 (6000 + 60) ([] : List Nat) ([] : List Nat) 0) = some true := by
  intro op sh Ko Ks c P h1 h2
  refine bS (by (try simp (disch := omega) only [fwI]); exact h1) ?_
  refine bS (by (try simp (disch := omega) only [fwI]); exact h2) ?_
  exact nests_2 P 6000 (Nat.le_refl _) (by omega) e0 q 0 (6000 + 60) (by omega) (by omega)
 obtain rfl | rfl | rfl | rfl | rfl | rfl | rfl | rfl | rfl : w = 0 ∨ w = 1 ∨ w = 2 ∨ w = 3 ∨ w = 4 ∨ w = 5 ∨ w = 6 ∨ w = 7 ∨ w = 8 := by omega
 ·exact key pr0 rfl rfl
 ·exact key pr1 rfl rfl
 ·exact key pr2 rfl rfl
 ·exact key pr3 rfl rfl
 ·exact key pr4 rfl rfl
 ·exact key pr5 rfl rfl
 ·exact key pr6 rfl rfl
 ·exact key pr7 rfl rfl
 ·exact key pr8 rfl rfl
end Go.Proofs.Ytbmijiibfaacmaa.Am
set_option linter.unusedVariables false
set_option linter.unusedSimpArgs false
namespace Go.Proofs.Ytbmijiibfaacmaa.Am
open Go
theorem gapNests_walk (a0 : Int) (a1 : Int) (W : World) (w0 : (Lit.int .i64 a0).wf = true) (w1 : (Lit.int .i64 a1).wf = true) : Calls Try.prog 12 #[.int .i64 a0, .int .i64 a1] W fun e W' => e = .returned (.bool true) ∧ RowKit.Below W.heap.size W W' := by
 obtain ⟨k, h⟩ := gapNests_true a0 a1
 exact law_walk (g12_ok k a0 a1 true h) (by simp only [VRs, VR]; exact ⟨_, _, rfl, rfl, ⟨_, _, rfl, rfl, rfl⟩⟩) W
end Go.Proofs.Ytbmijiibfaacmaa.Am
namespace Go.Proofs.Ytbmijiibfaacmaa.gapNests
open Go.ChangeShapes Go.WideShapes Go.ChangeAt Go.RowKit
open Go.ChangeMaps (open_string shut_string)
set_option linter.unusedVariables false
theorem own : ownKnob Try.prog.godebug = none := by kernel_rfl
set_option maxRecDepth 100000 in
theorem lifted (os : Os) (started : os.Started) (H : Type) (enc : TypeId × Value → H) :
 ReturnsInHanded {} Try.checked os 12 .any (Rows.gapNestsSpec.pre6 enc Try.prog Try.f12 Rows.gapNestsRow.domain false) (Rows.gapNestsSpec.post enc Try.prog Try.f12 false true false false) := by
 refine returnsInHanded_of_change_sized (C := Try.checked) own started (by kernel_rfl) Try.func12
  (ChangeSpec.witness6 (enc := enc) (C := Try.checked) false ⟨#[], #[.int .i64 0, .int .i64 0], []⟩ 8 (by kernel_rfl) (by kernel_rfl) (by kernel_rfl) (by kernel_rfl)) ?_
 intro W base args ds gs before hval0 hW hcnd hsz0 _
 have hsz : (DataW.weightsEach Try.prog (Try.f12.params.toList ++ Rows.gapNestsSpec.plain.varTypes Try.prog) (ds ++ gs)).all (· ≤ reachBytes) = true := hsz0
 have hval : ∀ (j : Nat) t v, Try.f12.params[j]? = some t → args[j]? = some v → Value.okWide Try.prog W .any base t v := hval0
 have hW' := hW
 obtain ⟨p, q, hA0, hV, rfl, hfz, hnd⟩ := hW
 have hA : DataW.TrodAll enc Try.prog W 0 (fun _ => true) true Try.f12.params.toList args.toList ds p := hA0
 rw [Try.params12] at hA hval hsz
 obtain ⟨v0, vs0, d0, ds0, p0, q0, hargs, rfl, rfl, h0, r0⟩ := trodAll_cons hA
 obtain ⟨v1, vs1, d1, ds1, p1, q1, rfl, rfl, rfl, h1, r1⟩ := trodAll_cons r0
 obtain ⟨rfl, rfl, rfl⟩ := trodAll_nil r1
 obtain rfl : args = #[v0, v1] := by cases args; simp_all
 obtain ⟨rfl, rfl⟩ := trodVars_none hV
 obtain ⟨a0, rfl, rfl, rfl, w0⟩ := open_int Try.underlying3 (hval 0 3 v0 rfl rfl) h0
 obtain ⟨a1, rfl, rfl, rfl, w1⟩ := open_int Try.underlying3 (hval 1 3 v1 rfl rfl) h1
 clear hA0 hval0 hsz0 hsz
 refine (Am.gapNests_walk a0 a1 W w0 w1).mono fun e W' ⟨he, bel⟩ => ?_
 subst he
 exact ⟨_, rfl, _, _, _, [], _, [], hW', trodAll_mk1 (shut_bool Try.underlying4 _), (trodAll_cons_mk (shut_int Try.underlying3 w0) (trodAll_cons_mk (shut_int Try.underlying3 w1) trodAll_mk0)), rfl, bel.frame _, fun h => by cases h⟩
theorem over : Rows.gapNestsRow.holds Try.pinned (OpenSpec.ofChange Rows.gapNestsSpec) :=
 OpenClaim.holds_of_wide 12 Try.f12 rfl rfl rfl rfl rfl rfl rfl ⟨rfl, rfl, rfl, rfl, rfl⟩ rfl rfl rfl rfl rfl (by kernel_rfl) Try.func12 (by kernel_rfl)
  (of_decide_eq_true (by kernel_rfl)) (by unfold Func.isWrapper; first | (rw [if_pos (by decide +kernel)]; kernel_rfl) | (rw [if_neg (by decide +kernel)]; exact ⟨rfl, rfl⟩))
  (fun os started H enc _ => lifted os started H enc)
theorem proved : Rows.GapNestsSaid := over
#print axioms proved
end Go.Proofs.Ytbmijiibfaacmaa.gapNests
namespace Go.Proofs.Ytbmijiibfaacmaa
theorem gapNests_holds : Rows.GapNestsSaid := gapNests.proved
end Go.Proofs.Ytbmijiibfaacmaa
