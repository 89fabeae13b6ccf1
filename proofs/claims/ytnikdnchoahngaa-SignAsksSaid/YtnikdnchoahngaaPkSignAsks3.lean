/- LawSignAsks, part 3: whatever the input, the law comes out true: our texts, joined by a tool, without what the claim does not name. -/
import Derived.Test.YtnikdnchoahngaaPkSignAsks2
import Derived.SizedLaws
import Derived.ChangeSlices
import Derived.Below
import Derived.Test.YtnikdnchoahngaaRows
import Derived.WalkKit
import Derived.ProofKit
import Derived.OpenShut
import Derived.ShutString
import Derived.ChangeOld
set_option maxRecDepth 100000
set_option linter.unusedVariables false
namespace Go.Proofs.Ytnikdnchoahngaa.Am
noncomputable section
open Go
theorem g10_l4_ok (k : Nat)  (a0 : (List Nat)) (a1 : Int) (a2 : S37)  : ∀ (n : Nat) (y4_0 : Int), Ok X10 g10p6 [(0, .str a0), (1, .int .i64 a1), (5, .ptr 0 3 0), (7, .int .i64 y4_0)] (mkH [⟨[.int .i64 a2.f0, .str a2.f1, .int .i64 a2.f2], 0, false⟩]) (g10_l4 k a0 a1 a2 n y4_0)
 | 0, _ => ok_none
 | n + 1, y4_0 => by
  have ih := g10_l4_ok k a0 a1 a2 n
  rw [g10_l4_s]
  refine ok_ent (p' := nav [0] g10p6) (by kernel_rfl) ?_
  let E4 : Env := [(22, .bool (decide (y4_0 < (a0.length : Int)))), (21, .int .i64 (a0.length : Int)), (20, .str a0), (19, .int .i64 y4_0), (0, .str a0), (1, .int .i64 a1), (5, .ptr 0 3 0), (7, .int .i64 y4_0)]
  refine oR 8 (p' := g10p8) (eE := E4) (H' := (mkH [⟨[.int .i64 a2.f0, .str a2.f1, .int .i64 a2.f2], 0, false⟩])) (by kernel_rfl) ?_
  refine oS 22 (b := decide (y4_0 < (a0.length : Int))) (by kernel_rfl) (fun hb => ?_) (fun hb => ?_)
  ·refine oR 8 (p' := (atN 2 (ctl1 g10p9))) (eE := ((26, .int .i64 y4_0) :: (25, .str a0) :: (22, .bool true) :: E4)) (H' := (mkH [⟨[.int .i64 a2.f0, .str a2.f1, .int .i64 a2.f2], 0, false⟩])) (by kernel_rfl) ?_
   refine oC (fun (x1_2 : Int) => .int .i64 x1_2) (atN 3 (ctl1 g10p9)) (fun x1_2 => ((27, .int .i64 x1_2) :: (26, .int .i64 y4_0) :: (25, .str a0) :: (22, .bool true) :: E4)) (fi := 34) (args := [.str a0, .int .i64 y4_0]) (by kernel_rfl) (by kernel_rfl) (fun _ => by kernel_rfl) (fun r h => g34_ok k a0 y4_0 r h) (fun _ => by kernel_rfl) (fun x1_2 hx1_2 => ?_)
   let E5 : Env := ((29, .int .i64 y4_0) :: (28, .str a0) :: (27, .int .i64 x1_2) :: (26, .int .i64 y4_0) :: (25, .str a0) :: (22, .bool true) :: E4)
   refine oR 2 (p' := (atN 5 (ctl1 g10p9))) (eE := E5) (H' := (mkH [⟨[.int .i64 a2.f0, .str a2.f1, .int .i64 a2.f2], 0, false⟩])) (by kernel_rfl) ?_
   refine oC (fun (x1_5 : Int) => .int .i64 x1_5) (atN 6 (ctl1 g10p9)) (fun x1_5 => ((30, .int .i64 x1_5) :: E5)) (fi := 35) (args := [.str a0, .int .i64 y4_0]) (by kernel_rfl) (by kernel_rfl) (fun _ => by kernel_rfl) (fun r h => g35_ok k a0 y4_0 r h) (fun _ => by kernel_rfl) (fun x1_5 hx1_5 => ?_)
   refine oR 2 (p' := g10p11) (eE := ((31, .bool (!decide (x1_2 = x1_5))) :: (30, .int .i64 x1_5) :: E5)) (H' := (mkH [⟨[.int .i64 a2.f0, .str a2.f1, .int .i64 a2.f2], 0, false⟩])) (by kernel_rfl) ?_
   refine oK [0, 1, 5, 7, 31] (eE := [(0, .str a0), (1, .int .i64 a1), (5, .ptr 0 3 0), (7, .int .i64 y4_0), (31, .bool (!decide (x1_2 = x1_5)))]) (by kernel_rfl) ?_
   refine oS 31 (b := !decide (x1_2 = x1_5)) (by kernel_rfl) (fun hb => ?_) (fun hb => ?_)
   ·let E6 : Env := [(6, .bool false), (31, .bool true), (0, .str a0), (1, .int .i64 a1), (5, .ptr 0 3 0), (7, .int .i64 y4_0), (31, .bool (!decide (x1_2 = x1_5)))]
    refine oR 6 (p' := .fin) (eE := E6) (H' := (mkH [⟨[.int .i64 a2.f0, .str a2.f1, .int .i64 a2.f2], 0, false⟩])) (by kernel_rfl) ?_
    exact oT (r := false) (xs := [.bool false]) (v := .bool false) (by kernel_rfl) (by kernel_rfl) (by kernel_rfl) (.pures (by kernel_rfl)) (by kernel_rfl)
   ·let E7 : Env := [(7, .int .i64 (fW .i64 (y4_0 + 1))), (24, .int .i64 (fW .i64 (y4_0 + 1))), (23, .int .i64 y4_0), (31, .bool false), (0, .str a0), (1, .int .i64 a1), (5, .ptr 0 3 0), (7, .int .i64 y4_0), (31, .bool (!decide (x1_2 = x1_5)))]
    refine oR 7 (p' := g10p6) (eE := E7) (H' := (mkH [⟨[.int .i64 a2.f0, .str a2.f1, .int .i64 a2.f2], 0, false⟩])) (by kernel_rfl) ?_
    refine oK [0, 1, 5, 7] (eE := [(0, .str a0), (1, .int .i64 a1), (5, .ptr 0 3 0), (7, .int .i64 (fW .i64 (y4_0 + 1)))]) (by kernel_rfl) ?_
    exact ih (fW .i64 (y4_0 + 1))
  ·refine oR 14 (p' := g10p15) (eE := ((33, .str a2.f1) :: (32, .ptr 0 3 1) :: (8, .str []) :: (22, .bool false) :: E4)) (H' := (mkH [⟨[.int .i64 a2.f0, .str a2.f1, .int .i64 a2.f2], 0, false⟩])) (by kernel_rfl) ?_
   refine oK [0, 1, 5, 8, 33] (eE := [(0, .str a0), (1, .int .i64 a1), (5, .ptr 0 3 0), (8, .str []), (33, .str a2.f1)]) (by kernel_rfl) ?_
   let E8 : Env := [(34, .bool (eqL a2.f1 [40])), (35, .bool (eqL a2.f1 [40])), (0, .str a0), (1, .int .i64 a1), (5, .ptr 0 3 0), (8, .str []), (33, .str a2.f1)]
   refine oR 4 (p' := g10p16) (eE := E8) (H' := (mkH [⟨[.int .i64 a2.f0, .str a2.f1, .int .i64 a2.f2], 0, false⟩])) (by kernel_rfl) ?_
   refine oJ (f := fun (z5 : (List Nat)) => (g33 k).bind fun x2_0 => if x2_0 then ((g34 k a0 a1).bind fun x2_4 => (g35 k a0 a1).bind fun x2_7 => if (decide (x2_4 = x2_7)) then ((g36 k (⟨a2.f0, a2.f1, a2.f2⟩ : S37)).bind fun x2_12 => (g37 k (⟨a2.f0, a2.f1, a2.f2⟩ : S37)).bind fun x2_14 => if (x2_12 == x2_14) then ((g38 k (⟨a2.f0, a2.f1, a2.f2⟩ : S37)).bind fun x2_19 => (g39 k (⟨a2.f0, a2.f1, a2.f2⟩ : S37)).bind fun x2_21 => if (x2_19 == x2_21) then ((g40 k a2.f1).bind fun x2_27 => some (eqL x2_27 z5)) else (some false)) else (some false)) else (some false)) else (some false)) g10p19 (fun (z5 : (List Nat)) => [(0, .str a0), (1, .int .i64 a1), (5, .ptr 0 3 0), (8, .str z5)]) (fun (z5 : (List Nat)) => (mkH [⟨[.int .i64 a2.f0, .str a2.f1, .int .i64 a2.f2], 0, false⟩])) (fun z5 => ?_) (fun j5 hj5 => ?_)
   ·refine ok_bind (fun x2_0 hx2_0 => ?_)
    refine ok_if (fun hb6 => ?_) (fun hb6 => ?_)
    ·refine ok_bind (fun x2_4 hx2_4 => ?_)
     refine ok_bind (fun x2_7 hx2_7 => ?_)
     refine ok_if (fun hb7 => ?_) (fun hb7 => ?_)
     ·refine ok_bind (fun x2_12 hx2_12 => ?_)
      refine ok_bind (fun x2_14 hx2_14 => ?_)
      refine ok_if (fun hb8 => ?_) (fun hb8 => ?_)
      ·refine ok_bind (fun x2_19 hx2_19 => ?_)
       refine ok_bind (fun x2_21 hx2_21 => ?_)
       refine ok_if (fun hb9 => ?_) (fun hb9 => ?_)
       ·refine ok_bind (fun x2_27 hx2_27 => ?_)
        let E9 : Env := [(42, .bool x2_0), (0, .str a0), (1, .int .i64 a1), (5, .ptr 0 3 0), (8, .str z5)]
        let E10 : Env := [(45, .int .i64 a1), (44, .str a0), (43, .bool true), (42, .bool true), (0, .str a0), (1, .int .i64 a1), (5, .ptr 0 3 0), (8, .str z5)]
        let E11 : Env := ((52, .bool (decide (x2_4 = x2_7))) :: (51, .bool (decide (x2_4 = x2_7))) :: (50, .bool (decide (x2_4 = x2_7))) :: (49, .int .i64 x2_7) :: (48, .int .i64 a1) :: (47, .str a0) :: (46, .int .i64 x2_4) :: E10)
        let E12 : Env := [(53, .agg [.int .i64 a2.f0, .str a2.f1, .int .i64 a2.f2]), (52, .bool true), (51, .bool true), (50, .bool true), (49, .int .i64 x2_7), (48, .int .i64 a1), (47, .str a0), (46, .int .i64 x2_4), (45, .int .i64 a1), (44, .str a0), (43, .bool true), (42, .bool true), (0, .str a0), (1, .int .i64 a1), (5, .ptr 0 3 0), (8, .str z5)]
        let E13 : Env := ((59, .bool (x2_12 == x2_14)) :: (58, .bool (x2_12 == x2_14)) :: (57, .bool (x2_12 == x2_14)) :: (56, .bool x2_14) :: (55, .agg [.int .i64 a2.f0, .str a2.f1, .int .i64 a2.f2]) :: (54, .bool x2_12) :: E12)
        let E14 : Env := [(60, .agg [.int .i64 a2.f0, .str a2.f1, .int .i64 a2.f2]), (59, .bool true), (58, .bool true), (57, .bool true), (56, .bool x2_14), (55, .agg [.int .i64 a2.f0, .str a2.f1, .int .i64 a2.f2]), (54, .bool x2_12), (53, .agg [.int .i64 a2.f0, .str a2.f1, .int .i64 a2.f2]), (52, .bool true), (51, .bool true), (50, .bool true), (49, .int .i64 x2_7), (48, .int .i64 a1), (47, .str a0), (46, .int .i64 x2_4), (45, .int .i64 a1), (44, .str a0), (43, .bool true), (42, .bool true), (0, .str a0), (1, .int .i64 a1), (5, .ptr 0 3 0), (8, .str z5)]
        let E15 : Env := ((66, .bool (x2_19 == x2_21)) :: (65, .bool (x2_19 == x2_21)) :: (64, .bool (x2_19 == x2_21)) :: (63, .bool x2_21) :: (62, .agg [.int .i64 a2.f0, .str a2.f1, .int .i64 a2.f2]) :: (61, .bool x2_19) :: E14)
        let E16 : Env := [(68, .str a2.f1), (67, .ptr 0 3 1), (66, .bool true), (65, .bool true), (64, .bool true), (63, .bool x2_21), (62, .agg [.int .i64 a2.f0, .str a2.f1, .int .i64 a2.f2]), (61, .bool x2_19), (60, .agg [.int .i64 a2.f0, .str a2.f1, .int .i64 a2.f2]), (59, .bool true), (58, .bool true), (57, .bool true), (56, .bool x2_14), (55, .agg [.int .i64 a2.f0, .str a2.f1, .int .i64 a2.f2]), (54, .bool x2_12), (53, .agg [.int .i64 a2.f0, .str a2.f1, .int .i64 a2.f2]), (52, .bool true), (51, .bool true), (50, .bool true), (49, .int .i64 x2_7), (48, .int .i64 a1), (47, .str a0), (46, .int .i64 x2_4), (45, .int .i64 a1), (44, .str a0), (43, .bool true), (42, .bool true), (0, .str a0), (1, .int .i64 a1), (5, .ptr 0 3 0), (8, .str z5)]
        let E17 : Env := ((6, .bool (eqL x2_27 z5)) :: (72, .bool (eqL x2_27 z5)) :: (71, .bool (eqL x2_27 z5)) :: (70, .str z5) :: (69, .str x2_27) :: E16)
        refine ok_draw (p' := nav [0] g10p19) (eE := E17) (H' := (mkH [⟨[.int .i64 a2.f0, .str a2.f1, .int .i64 a2.f2], 0, false⟩])) (hs := [(mkH [⟨[.int .i64 a2.f0, .str a2.f1, .int .i64 a2.f2], 0, false⟩]), (mkH [⟨[.int .i64 a2.f0, .str a2.f1, .int .i64 a2.f2], 0, false⟩]), (mkH [⟨[.int .i64 a2.f0, .str a2.f1, .int .i64 a2.f2], 0, false⟩]), (mkH [⟨[.int .i64 a2.f0, .str a2.f1, .int .i64 a2.f2], 0, false⟩]), (mkH [⟨[.int .i64 a2.f0, .str a2.f1, .int .i64 a2.f2], 0, false⟩]), (mkH [⟨[.int .i64 a2.f0, .str a2.f1, .int .i64 a2.f2], 0, false⟩]), (mkH [⟨[.int .i64 a2.f0, .str a2.f1, .int .i64 a2.f2], 0, false⟩]), (mkH [⟨[.int .i64 a2.f0, .str a2.f1, .int .i64 a2.f2], 0, false⟩])]) [(0, 0, 0), (1, 0, 0), (3, 0, 0), (3, 0, 0), (15, 0, 0), (3, 0, 0), (3, 0, 0), (127, 0, 0), (255, 0, 0), (511, 0, 0), (1023, 0, 0), (2047, 3, 3), (4095, 0, 0), (2047, 3, 4), (16383, 0, 0), (32767, 0, 0), (65535, 0, 0), (131071, 0, 0), (262143, 5, 5), (524287, 0, 0), (262143, 5, 6), (2097151, 0, 0), (4194303, 0, 0), (8388607, 0, 0), (16777215, 0, 0), (33554431, 0, 0), (67108863, 7, 7), (134217727, 0, 0), (33554431, 0, 0), (536870911, 0, 0), (1073741823, 0, 0), (2147483647, 0, 0)] (by kernel_rfl) (by kernel_rfl) (by kernel_rfl) (opsD_call (l' := (opsAt g10p19).toList.drop 1) (eE := E9) (hs := [(mkH [⟨[.int .i64 a2.f0, .str a2.f1, .int .i64 a2.f2], 0, false⟩])]) (fi := 33) (args := []) (v := .bool x2_0) (by kernel_rfl) (by kernel_rfl) (by kernel_rfl) (g33_ok k  x2_0 hx2_0) (by kernel_rfl) (opsD_run 1 (l' := (opsAt g10p19).toList.drop 2) (eE := ((43, .bool x2_0) :: E9)) (H' := (mkH [⟨[.int .i64 a2.f0, .str a2.f1, .int .i64 a2.f2], 0, false⟩])) (hs := []) (by kernel_rfl) (opsD_env (eE := [(43, .bool true), (42, .bool true), (0, .str a0), (1, .int .i64 a1), (5, .ptr 0 3 0), (8, .str z5)]) (congrArg (fun z : Bool => ([(43, .bool z), (42, .bool z), (0, .str a0), (1, .int .i64 a1), (5, .ptr 0 3 0), (8, .str z5)] : Env)) hb6) (opsD_run 2 (l' := (opsAt g10p19).toList.drop 4) (eE := E10) (H' := (mkH [⟨[.int .i64 a2.f0, .str a2.f1, .int .i64 a2.f2], 0, false⟩])) (hs := []) (by kernel_rfl) (opsD_call (l' := (opsAt g10p19).toList.drop 5) (eE := ((46, .int .i64 x2_4) :: E10)) (hs := [(mkH [⟨[.int .i64 a2.f0, .str a2.f1, .int .i64 a2.f2], 0, false⟩])]) (fi := 34) (args := [.str a0, .int .i64 a1]) (v := .int .i64 x2_4) (by kernel_rfl) (by kernel_rfl) (by kernel_rfl) (g34_ok k a0 a1 x2_4 hx2_4) (by kernel_rfl) (opsD_run 2 (l' := (opsAt g10p19).toList.drop 7) (eE := ((48, .int .i64 a1) :: (47, .str a0) :: (46, .int .i64 x2_4) :: E10)) (H' := (mkH [⟨[.int .i64 a2.f0, .str a2.f1, .int .i64 a2.f2], 0, false⟩])) (hs := []) (by kernel_rfl) (opsD_call (l' := (opsAt g10p19).toList.drop 8) (eE := ((49, .int .i64 x2_7) :: (48, .int .i64 a1) :: (47, .str a0) :: (46, .int .i64 x2_4) :: E10)) (hs := [(mkH [⟨[.int .i64 a2.f0, .str a2.f1, .int .i64 a2.f2], 0, false⟩])]) (fi := 35) (args := [.str a0, .int .i64 a1]) (v := .int .i64 x2_7) (by kernel_rfl) (by kernel_rfl) (by kernel_rfl) (g35_ok k a0 a1 x2_7 hx2_7) (by kernel_rfl) (opsD_run 3 (l' := (opsAt g10p19).toList.drop 11) (eE := E11) (H' := (mkH [⟨[.int .i64 a2.f0, .str a2.f1, .int .i64 a2.f2], 0, false⟩])) (hs := []) (by kernel_rfl) (opsD_env (eE := [(52, .bool true), (51, .bool true), (50, .bool true), (49, .int .i64 x2_7), (48, .int .i64 a1), (47, .str a0), (46, .int .i64 x2_4), (45, .int .i64 a1), (44, .str a0), (43, .bool true), (42, .bool true), (0, .str a0), (1, .int .i64 a1), (5, .ptr 0 3 0), (8, .str z5)]) (congrArg (fun z : Bool => ([(52, .bool z), (51, .bool z), (50, .bool z), (49, .int .i64 x2_7), (48, .int .i64 a1), (47, .str a0), (46, .int .i64 x2_4), (45, .int .i64 a1), (44, .str a0), (43, .bool true), (42, .bool true), (0, .str a0), (1, .int .i64 a1), (5, .ptr 0 3 0), (8, .str z5)] : Env)) hb7) (opsD_run 1 (l' := (opsAt g10p19).toList.drop 12) (eE := E12) (H' := (mkH [⟨[.int .i64 a2.f0, .str a2.f1, .int .i64 a2.f2], 0, false⟩])) (hs := []) (by kernel_rfl) (opsD_call (l' := (opsAt g10p19).toList.drop 13) (eE := ((54, .bool x2_12) :: E12)) (hs := [(mkH [⟨[.int .i64 a2.f0, .str a2.f1, .int .i64 a2.f2], 0, false⟩])]) (fi := 36) (args := [.agg [.int .i64 a2.f0, .str a2.f1, .int .i64 a2.f2]]) (v := .bool x2_12) (by kernel_rfl) (by kernel_rfl) (by kernel_rfl) (g36_ok k (⟨a2.f0, a2.f1, a2.f2⟩ : S37) x2_12 hx2_12) (by kernel_rfl) (opsD_run 1 (l' := (opsAt g10p19).toList.drop 14) (eE := ((55, .agg [.int .i64 a2.f0, .str a2.f1, .int .i64 a2.f2]) :: (54, .bool x2_12) :: E12)) (H' := (mkH [⟨[.int .i64 a2.f0, .str a2.f1, .int .i64 a2.f2], 0, false⟩])) (hs := []) (by kernel_rfl) (opsD_call (l' := (opsAt g10p19).toList.drop 15) (eE := ((56, .bool x2_14) :: (55, .agg [.int .i64 a2.f0, .str a2.f1, .int .i64 a2.f2]) :: (54, .bool x2_12) :: E12)) (hs := [(mkH [⟨[.int .i64 a2.f0, .str a2.f1, .int .i64 a2.f2], 0, false⟩])]) (fi := 37) (args := [.agg [.int .i64 a2.f0, .str a2.f1, .int .i64 a2.f2]]) (v := .bool x2_14) (by kernel_rfl) (by kernel_rfl) (by kernel_rfl) (g37_ok k (⟨a2.f0, a2.f1, a2.f2⟩ : S37) x2_14 hx2_14) (by kernel_rfl) (opsD_run 3 (l' := (opsAt g10p19).toList.drop 18) (eE := E13) (H' := (mkH [⟨[.int .i64 a2.f0, .str a2.f1, .int .i64 a2.f2], 0, false⟩])) (hs := []) (by kernel_rfl) (opsD_env (eE := [(59, .bool true), (58, .bool true), (57, .bool true), (56, .bool x2_14), (55, .agg [.int .i64 a2.f0, .str a2.f1, .int .i64 a2.f2]), (54, .bool x2_12), (53, .agg [.int .i64 a2.f0, .str a2.f1, .int .i64 a2.f2]), (52, .bool true), (51, .bool true), (50, .bool true), (49, .int .i64 x2_7), (48, .int .i64 a1), (47, .str a0), (46, .int .i64 x2_4), (45, .int .i64 a1), (44, .str a0), (43, .bool true), (42, .bool true), (0, .str a0), (1, .int .i64 a1), (5, .ptr 0 3 0), (8, .str z5)]) (congrArg (fun z : Bool => ([(59, .bool z), (58, .bool z), (57, .bool z), (56, .bool x2_14), (55, .agg [.int .i64 a2.f0, .str a2.f1, .int .i64 a2.f2]), (54, .bool x2_12), (53, .agg [.int .i64 a2.f0, .str a2.f1, .int .i64 a2.f2]), (52, .bool true), (51, .bool true), (50, .bool true), (49, .int .i64 x2_7), (48, .int .i64 a1), (47, .str a0), (46, .int .i64 x2_4), (45, .int .i64 a1), (44, .str a0), (43, .bool true), (42, .bool true), (0, .str a0), (1, .int .i64 a1), (5, .ptr 0 3 0), (8, .str z5)] : Env)) hb8) (opsD_run 1 (l' := (opsAt g10p19).toList.drop 19) (eE := E14) (H' := (mkH [⟨[.int .i64 a2.f0, .str a2.f1, .int .i64 a2.f2], 0, false⟩])) (hs := []) (by kernel_rfl) (opsD_call (l' := (opsAt g10p19).toList.drop 20) (eE := ((61, .bool x2_19) :: E14)) (hs := [(mkH [⟨[.int .i64 a2.f0, .str a2.f1, .int .i64 a2.f2], 0, false⟩])]) (fi := 38) (args := [.agg [.int .i64 a2.f0, .str a2.f1, .int .i64 a2.f2]]) (v := .bool x2_19) (by kernel_rfl) (by kernel_rfl) (by kernel_rfl) (g38_ok k (⟨a2.f0, a2.f1, a2.f2⟩ : S37) x2_19 hx2_19) (by kernel_rfl) (opsD_run 1 (l' := (opsAt g10p19).toList.drop 21) (eE := ((62, .agg [.int .i64 a2.f0, .str a2.f1, .int .i64 a2.f2]) :: (61, .bool x2_19) :: E14)) (H' := (mkH [⟨[.int .i64 a2.f0, .str a2.f1, .int .i64 a2.f2], 0, false⟩])) (hs := []) (by kernel_rfl) (opsD_call (l' := (opsAt g10p19).toList.drop 22) (eE := ((63, .bool x2_21) :: (62, .agg [.int .i64 a2.f0, .str a2.f1, .int .i64 a2.f2]) :: (61, .bool x2_19) :: E14)) (hs := [(mkH [⟨[.int .i64 a2.f0, .str a2.f1, .int .i64 a2.f2], 0, false⟩])]) (fi := 39) (args := [.agg [.int .i64 a2.f0, .str a2.f1, .int .i64 a2.f2]]) (v := .bool x2_21) (by kernel_rfl) (by kernel_rfl) (by kernel_rfl) (g39_ok k (⟨a2.f0, a2.f1, a2.f2⟩ : S37) x2_21 hx2_21) (by kernel_rfl) (opsD_run 3 (l' := (opsAt g10p19).toList.drop 25) (eE := E15) (H' := (mkH [⟨[.int .i64 a2.f0, .str a2.f1, .int .i64 a2.f2], 0, false⟩])) (hs := []) (by kernel_rfl) (opsD_env (eE := [(66, .bool true), (65, .bool true), (64, .bool true), (63, .bool x2_21), (62, .agg [.int .i64 a2.f0, .str a2.f1, .int .i64 a2.f2]), (61, .bool x2_19), (60, .agg [.int .i64 a2.f0, .str a2.f1, .int .i64 a2.f2]), (59, .bool true), (58, .bool true), (57, .bool true), (56, .bool x2_14), (55, .agg [.int .i64 a2.f0, .str a2.f1, .int .i64 a2.f2]), (54, .bool x2_12), (53, .agg [.int .i64 a2.f0, .str a2.f1, .int .i64 a2.f2]), (52, .bool true), (51, .bool true), (50, .bool true), (49, .int .i64 x2_7), (48, .int .i64 a1), (47, .str a0), (46, .int .i64 x2_4), (45, .int .i64 a1), (44, .str a0), (43, .bool true), (42, .bool true), (0, .str a0), (1, .int .i64 a1), (5, .ptr 0 3 0), (8, .str z5)]) (congrArg (fun z : Bool => ([(66, .bool z), (65, .bool z), (64, .bool z), (63, .bool x2_21), (62, .agg [.int .i64 a2.f0, .str a2.f1, .int .i64 a2.f2]), (61, .bool x2_19), (60, .agg [.int .i64 a2.f0, .str a2.f1, .int .i64 a2.f2]), (59, .bool true), (58, .bool true), (57, .bool true), (56, .bool x2_14), (55, .agg [.int .i64 a2.f0, .str a2.f1, .int .i64 a2.f2]), (54, .bool x2_12), (53, .agg [.int .i64 a2.f0, .str a2.f1, .int .i64 a2.f2]), (52, .bool true), (51, .bool true), (50, .bool true), (49, .int .i64 x2_7), (48, .int .i64 a1), (47, .str a0), (46, .int .i64 x2_4), (45, .int .i64 a1), (44, .str a0), (43, .bool true), (42, .bool true), (0, .str a0), (1, .int .i64 a1), (5, .ptr 0 3 0), (8, .str z5)] : Env)) hb9) (opsD_run 2 (l' := (opsAt g10p19).toList.drop 27) (eE := E16) (H' := (mkH [⟨[.int .i64 a2.f0, .str a2.f1, .int .i64 a2.f2], 0, false⟩])) (hs := []) (by kernel_rfl) (opsD_call (l' := (opsAt g10p19).toList.drop 28) (eE := ((69, .str x2_27) :: E16)) (hs := [(mkH [⟨[.int .i64 a2.f0, .str a2.f1, .int .i64 a2.f2], 0, false⟩])]) (fi := 40) (args := [.str a2.f1]) (v := .str x2_27) (by kernel_rfl) (by kernel_rfl) (by kernel_rfl) (g40_ok k a2.f1 x2_27 hx2_27) (by kernel_rfl) (opsD_run 4 (l' := (opsAt g10p19).toList.drop 32) (eE := E17) (H' := (mkH [⟨[.int .i64 a2.f0, .str a2.f1, .int .i64 a2.f2], 0, false⟩])) (hs := []) (by kernel_rfl) (.nil))))))))))))))))))))))))) (by kernel_rfl) (by kernel_rfl) (by kernel_rfl) ?_
        refine oR 1 (p' := .fin) (eE := E17) (H' := (mkH [⟨[.int .i64 a2.f0, .str a2.f1, .int .i64 a2.f2], 0, false⟩])) (by kernel_rfl) ?_
        exact oT (r := (eqL x2_27 z5)) (xs := [.bool (eqL x2_27 z5)]) (v := .bool (eqL x2_27 z5)) (by kernel_rfl) (by kernel_rfl) (by kernel_rfl) (.pures (by kernel_rfl)) (by kernel_rfl)
       ·let E9 : Env := [(42, .bool x2_0), (0, .str a0), (1, .int .i64 a1), (5, .ptr 0 3 0), (8, .str z5)]
        let E10 : Env := [(45, .int .i64 a1), (44, .str a0), (43, .bool true), (42, .bool true), (0, .str a0), (1, .int .i64 a1), (5, .ptr 0 3 0), (8, .str z5)]
        let E11 : Env := ((52, .bool (decide (x2_4 = x2_7))) :: (51, .bool (decide (x2_4 = x2_7))) :: (50, .bool (decide (x2_4 = x2_7))) :: (49, .int .i64 x2_7) :: (48, .int .i64 a1) :: (47, .str a0) :: (46, .int .i64 x2_4) :: E10)
        let E12 : Env := [(53, .agg [.int .i64 a2.f0, .str a2.f1, .int .i64 a2.f2]), (52, .bool true), (51, .bool true), (50, .bool true), (49, .int .i64 x2_7), (48, .int .i64 a1), (47, .str a0), (46, .int .i64 x2_4), (45, .int .i64 a1), (44, .str a0), (43, .bool true), (42, .bool true), (0, .str a0), (1, .int .i64 a1), (5, .ptr 0 3 0), (8, .str z5)]
        let E13 : Env := ((59, .bool (x2_12 == x2_14)) :: (58, .bool (x2_12 == x2_14)) :: (57, .bool (x2_12 == x2_14)) :: (56, .bool x2_14) :: (55, .agg [.int .i64 a2.f0, .str a2.f1, .int .i64 a2.f2]) :: (54, .bool x2_12) :: E12)
        let E14 : Env := [(60, .agg [.int .i64 a2.f0, .str a2.f1, .int .i64 a2.f2]), (59, .bool true), (58, .bool true), (57, .bool true), (56, .bool x2_14), (55, .agg [.int .i64 a2.f0, .str a2.f1, .int .i64 a2.f2]), (54, .bool x2_12), (53, .agg [.int .i64 a2.f0, .str a2.f1, .int .i64 a2.f2]), (52, .bool true), (51, .bool true), (50, .bool true), (49, .int .i64 x2_7), (48, .int .i64 a1), (47, .str a0), (46, .int .i64 x2_4), (45, .int .i64 a1), (44, .str a0), (43, .bool true), (42, .bool true), (0, .str a0), (1, .int .i64 a1), (5, .ptr 0 3 0), (8, .str z5)]
        let E15 : Env := ((66, .bool (x2_19 == x2_21)) :: (65, .bool (x2_19 == x2_21)) :: (64, .bool (x2_19 == x2_21)) :: (63, .bool x2_21) :: (62, .agg [.int .i64 a2.f0, .str a2.f1, .int .i64 a2.f2]) :: (61, .bool x2_19) :: E14)
        let E18 : Env := [(6, .bool false), (72, .bool false), (71, .tuple []), (70, .tuple []), (69, .tuple []), (68, .tuple []), (67, .tuple []), (66, .bool false), (65, .bool false), (64, .bool false), (63, .bool x2_21), (62, .agg [.int .i64 a2.f0, .str a2.f1, .int .i64 a2.f2]), (61, .bool x2_19), (60, .agg [.int .i64 a2.f0, .str a2.f1, .int .i64 a2.f2]), (59, .bool true), (58, .bool true), (57, .bool true), (56, .bool x2_14), (55, .agg [.int .i64 a2.f0, .str a2.f1, .int .i64 a2.f2]), (54, .bool x2_12), (53, .agg [.int .i64 a2.f0, .str a2.f1, .int .i64 a2.f2]), (52, .bool true), (51, .bool true), (50, .bool true), (49, .int .i64 x2_7), (48, .int .i64 a1), (47, .str a0), (46, .int .i64 x2_4), (45, .int .i64 a1), (44, .str a0), (43, .bool true), (42, .bool true), (0, .str a0), (1, .int .i64 a1), (5, .ptr 0 3 0), (8, .str z5)]
        refine ok_draw (p' := nav [0] g10p19) (eE := E18) (H' := (mkH [⟨[.int .i64 a2.f0, .str a2.f1, .int .i64 a2.f2], 0, false⟩])) (hs := [(mkH [⟨[.int .i64 a2.f0, .str a2.f1, .int .i64 a2.f2], 0, false⟩]), (mkH [⟨[.int .i64 a2.f0, .str a2.f1, .int .i64 a2.f2], 0, false⟩]), (mkH [⟨[.int .i64 a2.f0, .str a2.f1, .int .i64 a2.f2], 0, false⟩]), (mkH [⟨[.int .i64 a2.f0, .str a2.f1, .int .i64 a2.f2], 0, false⟩]), (mkH [⟨[.int .i64 a2.f0, .str a2.f1, .int .i64 a2.f2], 0, false⟩]), (mkH [⟨[.int .i64 a2.f0, .str a2.f1, .int .i64 a2.f2], 0, false⟩]), (mkH [⟨[.int .i64 a2.f0, .str a2.f1, .int .i64 a2.f2], 0, false⟩]), (mkH [⟨[.int .i64 a2.f0, .str a2.f1, .int .i64 a2.f2], 0, false⟩])]) [(0, 0, 0), (1, 0, 0), (3, 0, 0), (3, 0, 0), (15, 0, 0), (3, 0, 0), (3, 0, 0), (127, 0, 0), (255, 0, 0), (511, 0, 0), (1023, 0, 0), (2047, 3, 3), (4095, 0, 0), (2047, 3, 4), (16383, 0, 0), (32767, 0, 0), (65535, 0, 0), (131071, 0, 0), (262143, 5, 5), (524287, 0, 0), (262143, 5, 6), (2097151, 0, 0), (4194303, 0, 0), (8388607, 0, 0), (16777215, 0, 0), (33554431, 0, 0), (67108863, 7, 7), (134217727, 0, 0), (33554431, 0, 0), (536870911, 0, 0), (1073741823, 0, 0), (2147483647, 0, 0)] (by kernel_rfl) (by kernel_rfl) (by kernel_rfl) (opsD_call (l' := (opsAt g10p19).toList.drop 1) (eE := E9) (hs := [(mkH [⟨[.int .i64 a2.f0, .str a2.f1, .int .i64 a2.f2], 0, false⟩])]) (fi := 33) (args := []) (v := .bool x2_0) (by kernel_rfl) (by kernel_rfl) (by kernel_rfl) (g33_ok k  x2_0 hx2_0) (by kernel_rfl) (opsD_run 1 (l' := (opsAt g10p19).toList.drop 2) (eE := ((43, .bool x2_0) :: E9)) (H' := (mkH [⟨[.int .i64 a2.f0, .str a2.f1, .int .i64 a2.f2], 0, false⟩])) (hs := []) (by kernel_rfl) (opsD_env (eE := [(43, .bool true), (42, .bool true), (0, .str a0), (1, .int .i64 a1), (5, .ptr 0 3 0), (8, .str z5)]) (congrArg (fun z : Bool => ([(43, .bool z), (42, .bool z), (0, .str a0), (1, .int .i64 a1), (5, .ptr 0 3 0), (8, .str z5)] : Env)) hb6) (opsD_run 2 (l' := (opsAt g10p19).toList.drop 4) (eE := E10) (H' := (mkH [⟨[.int .i64 a2.f0, .str a2.f1, .int .i64 a2.f2], 0, false⟩])) (hs := []) (by kernel_rfl) (opsD_call (l' := (opsAt g10p19).toList.drop 5) (eE := ((46, .int .i64 x2_4) :: E10)) (hs := [(mkH [⟨[.int .i64 a2.f0, .str a2.f1, .int .i64 a2.f2], 0, false⟩])]) (fi := 34) (args := [.str a0, .int .i64 a1]) (v := .int .i64 x2_4) (by kernel_rfl) (by kernel_rfl) (by kernel_rfl) (g34_ok k a0 a1 x2_4 hx2_4) (by kernel_rfl) (opsD_run 2 (l' := (opsAt g10p19).toList.drop 7) (eE := ((48, .int .i64 a1) :: (47, .str a0) :: (46, .int .i64 x2_4) :: E10)) (H' := (mkH [⟨[.int .i64 a2.f0, .str a2.f1, .int .i64 a2.f2], 0, false⟩])) (hs := []) (by kernel_rfl) (opsD_call (l' := (opsAt g10p19).toList.drop 8) (eE := ((49, .int .i64 x2_7) :: (48, .int .i64 a1) :: (47, .str a0) :: (46, .int .i64 x2_4) :: E10)) (hs := [(mkH [⟨[.int .i64 a2.f0, .str a2.f1, .int .i64 a2.f2], 0, false⟩])]) (fi := 35) (args := [.str a0, .int .i64 a1]) (v := .int .i64 x2_7) (by kernel_rfl) (by kernel_rfl) (by kernel_rfl) (g35_ok k a0 a1 x2_7 hx2_7) (by kernel_rfl) (opsD_run 3 (l' := (opsAt g10p19).toList.drop 11) (eE := E11) (H' := (mkH [⟨[.int .i64 a2.f0, .str a2.f1, .int .i64 a2.f2], 0, false⟩])) (hs := []) (by kernel_rfl) (opsD_env (eE := [(52, .bool true), (51, .bool true), (50, .bool true), (49, .int .i64 x2_7), (48, .int .i64 a1), (47, .str a0), (46, .int .i64 x2_4), (45, .int .i64 a1), (44, .str a0), (43, .bool true), (42, .bool true), (0, .str a0), (1, .int .i64 a1), (5, .ptr 0 3 0), (8, .str z5)]) (congrArg (fun z : Bool => ([(52, .bool z), (51, .bool z), (50, .bool z), (49, .int .i64 x2_7), (48, .int .i64 a1), (47, .str a0), (46, .int .i64 x2_4), (45, .int .i64 a1), (44, .str a0), (43, .bool true), (42, .bool true), (0, .str a0), (1, .int .i64 a1), (5, .ptr 0 3 0), (8, .str z5)] : Env)) hb7) (opsD_run 1 (l' := (opsAt g10p19).toList.drop 12) (eE := E12) (H' := (mkH [⟨[.int .i64 a2.f0, .str a2.f1, .int .i64 a2.f2], 0, false⟩])) (hs := []) (by kernel_rfl) (opsD_call (l' := (opsAt g10p19).toList.drop 13) (eE := ((54, .bool x2_12) :: E12)) (hs := [(mkH [⟨[.int .i64 a2.f0, .str a2.f1, .int .i64 a2.f2], 0, false⟩])]) (fi := 36) (args := [.agg [.int .i64 a2.f0, .str a2.f1, .int .i64 a2.f2]]) (v := .bool x2_12) (by kernel_rfl) (by kernel_rfl) (by kernel_rfl) (g36_ok k (⟨a2.f0, a2.f1, a2.f2⟩ : S37) x2_12 hx2_12) (by kernel_rfl) (opsD_run 1 (l' := (opsAt g10p19).toList.drop 14) (eE := ((55, .agg [.int .i64 a2.f0, .str a2.f1, .int .i64 a2.f2]) :: (54, .bool x2_12) :: E12)) (H' := (mkH [⟨[.int .i64 a2.f0, .str a2.f1, .int .i64 a2.f2], 0, false⟩])) (hs := []) (by kernel_rfl) (opsD_call (l' := (opsAt g10p19).toList.drop 15) (eE := ((56, .bool x2_14) :: (55, .agg [.int .i64 a2.f0, .str a2.f1, .int .i64 a2.f2]) :: (54, .bool x2_12) :: E12)) (hs := [(mkH [⟨[.int .i64 a2.f0, .str a2.f1, .int .i64 a2.f2], 0, false⟩])]) (fi := 37) (args := [.agg [.int .i64 a2.f0, .str a2.f1, .int .i64 a2.f2]]) (v := .bool x2_14) (by kernel_rfl) (by kernel_rfl) (by kernel_rfl) (g37_ok k (⟨a2.f0, a2.f1, a2.f2⟩ : S37) x2_14 hx2_14) (by kernel_rfl) (opsD_run 3 (l' := (opsAt g10p19).toList.drop 18) (eE := E13) (H' := (mkH [⟨[.int .i64 a2.f0, .str a2.f1, .int .i64 a2.f2], 0, false⟩])) (hs := []) (by kernel_rfl) (opsD_env (eE := [(59, .bool true), (58, .bool true), (57, .bool true), (56, .bool x2_14), (55, .agg [.int .i64 a2.f0, .str a2.f1, .int .i64 a2.f2]), (54, .bool x2_12), (53, .agg [.int .i64 a2.f0, .str a2.f1, .int .i64 a2.f2]), (52, .bool true), (51, .bool true), (50, .bool true), (49, .int .i64 x2_7), (48, .int .i64 a1), (47, .str a0), (46, .int .i64 x2_4), (45, .int .i64 a1), (44, .str a0), (43, .bool true), (42, .bool true), (0, .str a0), (1, .int .i64 a1), (5, .ptr 0 3 0), (8, .str z5)]) (congrArg (fun z : Bool => ([(59, .bool z), (58, .bool z), (57, .bool z), (56, .bool x2_14), (55, .agg [.int .i64 a2.f0, .str a2.f1, .int .i64 a2.f2]), (54, .bool x2_12), (53, .agg [.int .i64 a2.f0, .str a2.f1, .int .i64 a2.f2]), (52, .bool true), (51, .bool true), (50, .bool true), (49, .int .i64 x2_7), (48, .int .i64 a1), (47, .str a0), (46, .int .i64 x2_4), (45, .int .i64 a1), (44, .str a0), (43, .bool true), (42, .bool true), (0, .str a0), (1, .int .i64 a1), (5, .ptr 0 3 0), (8, .str z5)] : Env)) hb8) (opsD_run 1 (l' := (opsAt g10p19).toList.drop 19) (eE := E14) (H' := (mkH [⟨[.int .i64 a2.f0, .str a2.f1, .int .i64 a2.f2], 0, false⟩])) (hs := []) (by kernel_rfl) (opsD_call (l' := (opsAt g10p19).toList.drop 20) (eE := ((61, .bool x2_19) :: E14)) (hs := [(mkH [⟨[.int .i64 a2.f0, .str a2.f1, .int .i64 a2.f2], 0, false⟩])]) (fi := 38) (args := [.agg [.int .i64 a2.f0, .str a2.f1, .int .i64 a2.f2]]) (v := .bool x2_19) (by kernel_rfl) (by kernel_rfl) (by kernel_rfl) (g38_ok k (⟨a2.f0, a2.f1, a2.f2⟩ : S37) x2_19 hx2_19) (by kernel_rfl) (opsD_run 1 (l' := (opsAt g10p19).toList.drop 21) (eE := ((62, .agg [.int .i64 a2.f0, .str a2.f1, .int .i64 a2.f2]) :: (61, .bool x2_19) :: E14)) (H' := (mkH [⟨[.int .i64 a2.f0, .str a2.f1, .int .i64 a2.f2], 0, false⟩])) (hs := []) (by kernel_rfl) (opsD_call (l' := (opsAt g10p19).toList.drop 22) (eE := ((63, .bool x2_21) :: (62, .agg [.int .i64 a2.f0, .str a2.f1, .int .i64 a2.f2]) :: (61, .bool x2_19) :: E14)) (hs := [(mkH [⟨[.int .i64 a2.f0, .str a2.f1, .int .i64 a2.f2], 0, false⟩])]) (fi := 39) (args := [.agg [.int .i64 a2.f0, .str a2.f1, .int .i64 a2.f2]]) (v := .bool x2_21) (by kernel_rfl) (by kernel_rfl) (by kernel_rfl) (g39_ok k (⟨a2.f0, a2.f1, a2.f2⟩ : S37) x2_21 hx2_21) (by kernel_rfl) (opsD_run 3 (l' := (opsAt g10p19).toList.drop 25) (eE := E15) (H' := (mkH [⟨[.int .i64 a2.f0, .str a2.f1, .int .i64 a2.f2], 0, false⟩])) (hs := []) (by kernel_rfl) (opsD_env (eE := [(66, .bool false), (65, .bool false), (64, .bool false), (63, .bool x2_21), (62, .agg [.int .i64 a2.f0, .str a2.f1, .int .i64 a2.f2]), (61, .bool x2_19), (60, .agg [.int .i64 a2.f0, .str a2.f1, .int .i64 a2.f2]), (59, .bool true), (58, .bool true), (57, .bool true), (56, .bool x2_14), (55, .agg [.int .i64 a2.f0, .str a2.f1, .int .i64 a2.f2]), (54, .bool x2_12), (53, .agg [.int .i64 a2.f0, .str a2.f1, .int .i64 a2.f2]), (52, .bool true), (51, .bool true), (50, .bool true), (49, .int .i64 x2_7), (48, .int .i64 a1), (47, .str a0), (46, .int .i64 x2_4), (45, .int .i64 a1), (44, .str a0), (43, .bool true), (42, .bool true), (0, .str a0), (1, .int .i64 a1), (5, .ptr 0 3 0), (8, .str z5)]) (congrArg (fun z : Bool => ([(66, .bool z), (65, .bool z), (64, .bool z), (63, .bool x2_21), (62, .agg [.int .i64 a2.f0, .str a2.f1, .int .i64 a2.f2]), (61, .bool x2_19), (60, .agg [.int .i64 a2.f0, .str a2.f1, .int .i64 a2.f2]), (59, .bool true), (58, .bool true), (57, .bool true), (56, .bool x2_14), (55, .agg [.int .i64 a2.f0, .str a2.f1, .int .i64 a2.f2]), (54, .bool x2_12), (53, .agg [.int .i64 a2.f0, .str a2.f1, .int .i64 a2.f2]), (52, .bool true), (51, .bool true), (50, .bool true), (49, .int .i64 x2_7), (48, .int .i64 a1), (47, .str a0), (46, .int .i64 x2_4), (45, .int .i64 a1), (44, .str a0), (43, .bool true), (42, .bool true), (0, .str a0), (1, .int .i64 a1), (5, .ptr 0 3 0), (8, .str z5)] : Env)) hb9) (opsD_run 7 (l' := (opsAt g10p19).toList.drop 32) (eE := E18) (H' := (mkH [⟨[.int .i64 a2.f0, .str a2.f1, .int .i64 a2.f2], 0, false⟩])) (hs := [(mkH [⟨[.int .i64 a2.f0, .str a2.f1, .int .i64 a2.f2], 0, false⟩])]) (by kernel_rfl) (.nil))))))))))))))))))))))) (by kernel_rfl) (by kernel_rfl) (by kernel_rfl) ?_
        refine oR 1 (p' := .fin) (eE := E18) (H' := (mkH [⟨[.int .i64 a2.f0, .str a2.f1, .int .i64 a2.f2], 0, false⟩])) (by kernel_rfl) ?_
        exact oT (r := false) (xs := [.bool false]) (v := .bool false) (by kernel_rfl) (by kernel_rfl) (by kernel_rfl) (.pures (by kernel_rfl)) (by kernel_rfl)
      ·let E9 : Env := [(42, .bool x2_0), (0, .str a0), (1, .int .i64 a1), (5, .ptr 0 3 0), (8, .str z5)]
       let E10 : Env := [(45, .int .i64 a1), (44, .str a0), (43, .bool true), (42, .bool true), (0, .str a0), (1, .int .i64 a1), (5, .ptr 0 3 0), (8, .str z5)]
       let E11 : Env := ((52, .bool (decide (x2_4 = x2_7))) :: (51, .bool (decide (x2_4 = x2_7))) :: (50, .bool (decide (x2_4 = x2_7))) :: (49, .int .i64 x2_7) :: (48, .int .i64 a1) :: (47, .str a0) :: (46, .int .i64 x2_4) :: E10)
       let E12 : Env := [(53, .agg [.int .i64 a2.f0, .str a2.f1, .int .i64 a2.f2]), (52, .bool true), (51, .bool true), (50, .bool true), (49, .int .i64 x2_7), (48, .int .i64 a1), (47, .str a0), (46, .int .i64 x2_4), (45, .int .i64 a1), (44, .str a0), (43, .bool true), (42, .bool true), (0, .str a0), (1, .int .i64 a1), (5, .ptr 0 3 0), (8, .str z5)]
       let E13 : Env := ((59, .bool (x2_12 == x2_14)) :: (58, .bool (x2_12 == x2_14)) :: (57, .bool (x2_12 == x2_14)) :: (56, .bool x2_14) :: (55, .agg [.int .i64 a2.f0, .str a2.f1, .int .i64 a2.f2]) :: (54, .bool x2_12) :: E12)
       let E19 : Env := [(6, .bool false), (72, .bool false), (71, .tuple []), (70, .tuple []), (69, .tuple []), (68, .tuple []), (67, .tuple []), (66, .bool false), (65, .bool false), (64, .tuple []), (63, .tuple []), (62, .tuple []), (61, .tuple []), (60, .tuple []), (59, .bool false), (58, .bool false), (57, .bool false), (56, .bool x2_14), (55, .agg [.int .i64 a2.f0, .str a2.f1, .int .i64 a2.f2]), (54, .bool x2_12), (53, .agg [.int .i64 a2.f0, .str a2.f1, .int .i64 a2.f2]), (52, .bool true), (51, .bool true), (50, .bool true), (49, .int .i64 x2_7), (48, .int .i64 a1), (47, .str a0), (46, .int .i64 x2_4), (45, .int .i64 a1), (44, .str a0), (43, .bool true), (42, .bool true), (0, .str a0), (1, .int .i64 a1), (5, .ptr 0 3 0), (8, .str z5)]
       refine ok_draw (p' := nav [0] g10p19) (eE := E19) (H' := (mkH [⟨[.int .i64 a2.f0, .str a2.f1, .int .i64 a2.f2], 0, false⟩])) (hs := [(mkH [⟨[.int .i64 a2.f0, .str a2.f1, .int .i64 a2.f2], 0, false⟩]), (mkH [⟨[.int .i64 a2.f0, .str a2.f1, .int .i64 a2.f2], 0, false⟩]), (mkH [⟨[.int .i64 a2.f0, .str a2.f1, .int .i64 a2.f2], 0, false⟩]), (mkH [⟨[.int .i64 a2.f0, .str a2.f1, .int .i64 a2.f2], 0, false⟩]), (mkH [⟨[.int .i64 a2.f0, .str a2.f1, .int .i64 a2.f2], 0, false⟩]), (mkH [⟨[.int .i64 a2.f0, .str a2.f1, .int .i64 a2.f2], 0, false⟩]), (mkH [⟨[.int .i64 a2.f0, .str a2.f1, .int .i64 a2.f2], 0, false⟩]), (mkH [⟨[.int .i64 a2.f0, .str a2.f1, .int .i64 a2.f2], 0, false⟩])]) [(0, 0, 0), (1, 0, 0), (3, 0, 0), (3, 0, 0), (15, 0, 0), (3, 0, 0), (3, 0, 0), (127, 0, 0), (255, 0, 0), (511, 0, 0), (1023, 0, 0), (2047, 3, 3), (4095, 0, 0), (2047, 3, 4), (16383, 0, 0), (32767, 0, 0), (65535, 0, 0), (131071, 0, 0), (262143, 5, 5), (524287, 0, 0), (262143, 5, 6), (2097151, 0, 0), (4194303, 0, 0), (8388607, 0, 0), (16777215, 0, 0), (33554431, 0, 0), (67108863, 7, 7), (134217727, 0, 0), (33554431, 0, 0), (536870911, 0, 0), (1073741823, 0, 0), (2147483647, 0, 0)] (by kernel_rfl) (by kernel_rfl) (by kernel_rfl) (opsD_call (l' := (opsAt g10p19).toList.drop 1) (eE := E9) (hs := [(mkH [⟨[.int .i64 a2.f0, .str a2.f1, .int .i64 a2.f2], 0, false⟩])]) (fi := 33) (args := []) (v := .bool x2_0) (by kernel_rfl) (by kernel_rfl) (by kernel_rfl) (g33_ok k  x2_0 hx2_0) (by kernel_rfl) (opsD_run 1 (l' := (opsAt g10p19).toList.drop 2) (eE := ((43, .bool x2_0) :: E9)) (H' := (mkH [⟨[.int .i64 a2.f0, .str a2.f1, .int .i64 a2.f2], 0, false⟩])) (hs := []) (by kernel_rfl) (opsD_env (eE := [(43, .bool true), (42, .bool true), (0, .str a0), (1, .int .i64 a1), (5, .ptr 0 3 0), (8, .str z5)]) (congrArg (fun z : Bool => ([(43, .bool z), (42, .bool z), (0, .str a0), (1, .int .i64 a1), (5, .ptr 0 3 0), (8, .str z5)] : Env)) hb6) (opsD_run 2 (l' := (opsAt g10p19).toList.drop 4) (eE := E10) (H' := (mkH [⟨[.int .i64 a2.f0, .str a2.f1, .int .i64 a2.f2], 0, false⟩])) (hs := []) (by kernel_rfl) (opsD_call (l' := (opsAt g10p19).toList.drop 5) (eE := ((46, .int .i64 x2_4) :: E10)) (hs := [(mkH [⟨[.int .i64 a2.f0, .str a2.f1, .int .i64 a2.f2], 0, false⟩])]) (fi := 34) (args := [.str a0, .int .i64 a1]) (v := .int .i64 x2_4) (by kernel_rfl) (by kernel_rfl) (by kernel_rfl) (g34_ok k a0 a1 x2_4 hx2_4) (by kernel_rfl) (opsD_run 2 (l' := (opsAt g10p19).toList.drop 7) (eE := ((48, .int .i64 a1) :: (47, .str a0) :: (46, .int .i64 x2_4) :: E10)) (H' := (mkH [⟨[.int .i64 a2.f0, .str a2.f1, .int .i64 a2.f2], 0, false⟩])) (hs := []) (by kernel_rfl) (opsD_call (l' := (opsAt g10p19).toList.drop 8) (eE := ((49, .int .i64 x2_7) :: (48, .int .i64 a1) :: (47, .str a0) :: (46, .int .i64 x2_4) :: E10)) (hs := [(mkH [⟨[.int .i64 a2.f0, .str a2.f1, .int .i64 a2.f2], 0, false⟩])]) (fi := 35) (args := [.str a0, .int .i64 a1]) (v := .int .i64 x2_7) (by kernel_rfl) (by kernel_rfl) (by kernel_rfl) (g35_ok k a0 a1 x2_7 hx2_7) (by kernel_rfl) (opsD_run 3 (l' := (opsAt g10p19).toList.drop 11) (eE := E11) (H' := (mkH [⟨[.int .i64 a2.f0, .str a2.f1, .int .i64 a2.f2], 0, false⟩])) (hs := []) (by kernel_rfl) (opsD_env (eE := [(52, .bool true), (51, .bool true), (50, .bool true), (49, .int .i64 x2_7), (48, .int .i64 a1), (47, .str a0), (46, .int .i64 x2_4), (45, .int .i64 a1), (44, .str a0), (43, .bool true), (42, .bool true), (0, .str a0), (1, .int .i64 a1), (5, .ptr 0 3 0), (8, .str z5)]) (congrArg (fun z : Bool => ([(52, .bool z), (51, .bool z), (50, .bool z), (49, .int .i64 x2_7), (48, .int .i64 a1), (47, .str a0), (46, .int .i64 x2_4), (45, .int .i64 a1), (44, .str a0), (43, .bool true), (42, .bool true), (0, .str a0), (1, .int .i64 a1), (5, .ptr 0 3 0), (8, .str z5)] : Env)) hb7) (opsD_run 1 (l' := (opsAt g10p19).toList.drop 12) (eE := E12) (H' := (mkH [⟨[.int .i64 a2.f0, .str a2.f1, .int .i64 a2.f2], 0, false⟩])) (hs := []) (by kernel_rfl) (opsD_call (l' := (opsAt g10p19).toList.drop 13) (eE := ((54, .bool x2_12) :: E12)) (hs := [(mkH [⟨[.int .i64 a2.f0, .str a2.f1, .int .i64 a2.f2], 0, false⟩])]) (fi := 36) (args := [.agg [.int .i64 a2.f0, .str a2.f1, .int .i64 a2.f2]]) (v := .bool x2_12) (by kernel_rfl) (by kernel_rfl) (by kernel_rfl) (g36_ok k (⟨a2.f0, a2.f1, a2.f2⟩ : S37) x2_12 hx2_12) (by kernel_rfl) (opsD_run 1 (l' := (opsAt g10p19).toList.drop 14) (eE := ((55, .agg [.int .i64 a2.f0, .str a2.f1, .int .i64 a2.f2]) :: (54, .bool x2_12) :: E12)) (H' := (mkH [⟨[.int .i64 a2.f0, .str a2.f1, .int .i64 a2.f2], 0, false⟩])) (hs := []) (by kernel_rfl) (opsD_call (l' := (opsAt g10p19).toList.drop 15) (eE := ((56, .bool x2_14) :: (55, .agg [.int .i64 a2.f0, .str a2.f1, .int .i64 a2.f2]) :: (54, .bool x2_12) :: E12)) (hs := [(mkH [⟨[.int .i64 a2.f0, .str a2.f1, .int .i64 a2.f2], 0, false⟩])]) (fi := 37) (args := [.agg [.int .i64 a2.f0, .str a2.f1, .int .i64 a2.f2]]) (v := .bool x2_14) (by kernel_rfl) (by kernel_rfl) (by kernel_rfl) (g37_ok k (⟨a2.f0, a2.f1, a2.f2⟩ : S37) x2_14 hx2_14) (by kernel_rfl) (opsD_run 3 (l' := (opsAt g10p19).toList.drop 18) (eE := E13) (H' := (mkH [⟨[.int .i64 a2.f0, .str a2.f1, .int .i64 a2.f2], 0, false⟩])) (hs := []) (by kernel_rfl) (opsD_env (eE := [(59, .bool false), (58, .bool false), (57, .bool false), (56, .bool x2_14), (55, .agg [.int .i64 a2.f0, .str a2.f1, .int .i64 a2.f2]), (54, .bool x2_12), (53, .agg [.int .i64 a2.f0, .str a2.f1, .int .i64 a2.f2]), (52, .bool true), (51, .bool true), (50, .bool true), (49, .int .i64 x2_7), (48, .int .i64 a1), (47, .str a0), (46, .int .i64 x2_4), (45, .int .i64 a1), (44, .str a0), (43, .bool true), (42, .bool true), (0, .str a0), (1, .int .i64 a1), (5, .ptr 0 3 0), (8, .str z5)]) (congrArg (fun z : Bool => ([(59, .bool z), (58, .bool z), (57, .bool z), (56, .bool x2_14), (55, .agg [.int .i64 a2.f0, .str a2.f1, .int .i64 a2.f2]), (54, .bool x2_12), (53, .agg [.int .i64 a2.f0, .str a2.f1, .int .i64 a2.f2]), (52, .bool true), (51, .bool true), (50, .bool true), (49, .int .i64 x2_7), (48, .int .i64 a1), (47, .str a0), (46, .int .i64 x2_4), (45, .int .i64 a1), (44, .str a0), (43, .bool true), (42, .bool true), (0, .str a0), (1, .int .i64 a1), (5, .ptr 0 3 0), (8, .str z5)] : Env)) hb8) (opsD_run 14 (l' := (opsAt g10p19).toList.drop 32) (eE := E19) (H' := (mkH [⟨[.int .i64 a2.f0, .str a2.f1, .int .i64 a2.f2], 0, false⟩])) (hs := [(mkH [⟨[.int .i64 a2.f0, .str a2.f1, .int .i64 a2.f2], 0, false⟩]), (mkH [⟨[.int .i64 a2.f0, .str a2.f1, .int .i64 a2.f2], 0, false⟩]), (mkH [⟨[.int .i64 a2.f0, .str a2.f1, .int .i64 a2.f2], 0, false⟩])]) (by kernel_rfl) (.nil))))))))))))))))) (by kernel_rfl) (by kernel_rfl) (by kernel_rfl) ?_
       refine oR 1 (p' := .fin) (eE := E19) (H' := (mkH [⟨[.int .i64 a2.f0, .str a2.f1, .int .i64 a2.f2], 0, false⟩])) (by kernel_rfl) ?_
       exact oT (r := false) (xs := [.bool false]) (v := .bool false) (by kernel_rfl) (by kernel_rfl) (by kernel_rfl) (.pures (by kernel_rfl)) (by kernel_rfl)
     ·let E9 : Env := [(42, .bool x2_0), (0, .str a0), (1, .int .i64 a1), (5, .ptr 0 3 0), (8, .str z5)]
      let E10 : Env := [(45, .int .i64 a1), (44, .str a0), (43, .bool true), (42, .bool true), (0, .str a0), (1, .int .i64 a1), (5, .ptr 0 3 0), (8, .str z5)]
      let E11 : Env := ((52, .bool (decide (x2_4 = x2_7))) :: (51, .bool (decide (x2_4 = x2_7))) :: (50, .bool (decide (x2_4 = x2_7))) :: (49, .int .i64 x2_7) :: (48, .int .i64 a1) :: (47, .str a0) :: (46, .int .i64 x2_4) :: E10)
      let E20 : Env := [(6, .bool false), (72, .bool false), (71, .tuple []), (70, .tuple []), (69, .tuple []), (68, .tuple []), (67, .tuple []), (66, .bool false), (65, .bool false), (64, .tuple []), (63, .tuple []), (62, .tuple []), (61, .tuple []), (60, .tuple []), (59, .bool false), (58, .bool false), (57, .tuple []), (56, .tuple []), (55, .tuple []), (54, .tuple []), (53, .tuple []), (52, .bool false), (51, .bool false), (50, .bool false), (49, .int .i64 x2_7), (48, .int .i64 a1), (47, .str a0), (46, .int .i64 x2_4), (45, .int .i64 a1), (44, .str a0), (43, .bool true), (42, .bool true), (0, .str a0), (1, .int .i64 a1), (5, .ptr 0 3 0), (8, .str z5)]
      refine ok_draw (p' := nav [0] g10p19) (eE := E20) (H' := (mkH [⟨[.int .i64 a2.f0, .str a2.f1, .int .i64 a2.f2], 0, false⟩])) (hs := [(mkH [⟨[.int .i64 a2.f0, .str a2.f1, .int .i64 a2.f2], 0, false⟩]), (mkH [⟨[.int .i64 a2.f0, .str a2.f1, .int .i64 a2.f2], 0, false⟩]), (mkH [⟨[.int .i64 a2.f0, .str a2.f1, .int .i64 a2.f2], 0, false⟩]), (mkH [⟨[.int .i64 a2.f0, .str a2.f1, .int .i64 a2.f2], 0, false⟩]), (mkH [⟨[.int .i64 a2.f0, .str a2.f1, .int .i64 a2.f2], 0, false⟩]), (mkH [⟨[.int .i64 a2.f0, .str a2.f1, .int .i64 a2.f2], 0, false⟩]), (mkH [⟨[.int .i64 a2.f0, .str a2.f1, .int .i64 a2.f2], 0, false⟩]), (mkH [⟨[.int .i64 a2.f0, .str a2.f1, .int .i64 a2.f2], 0, false⟩])]) [(0, 0, 0), (1, 0, 0), (3, 0, 0), (3, 0, 0), (15, 0, 0), (3, 0, 0), (3, 0, 0), (127, 0, 0), (255, 0, 0), (511, 0, 0), (1023, 0, 0), (2047, 3, 3), (4095, 0, 0), (2047, 3, 4), (16383, 0, 0), (32767, 0, 0), (65535, 0, 0), (131071, 0, 0), (262143, 5, 5), (524287, 0, 0), (262143, 5, 6), (2097151, 0, 0), (4194303, 0, 0), (8388607, 0, 0), (16777215, 0, 0), (33554431, 0, 0), (67108863, 7, 7), (134217727, 0, 0), (33554431, 0, 0), (536870911, 0, 0), (1073741823, 0, 0), (2147483647, 0, 0)] (by kernel_rfl) (by kernel_rfl) (by kernel_rfl) (opsD_call (l' := (opsAt g10p19).toList.drop 1) (eE := E9) (hs := [(mkH [⟨[.int .i64 a2.f0, .str a2.f1, .int .i64 a2.f2], 0, false⟩])]) (fi := 33) (args := []) (v := .bool x2_0) (by kernel_rfl) (by kernel_rfl) (by kernel_rfl) (g33_ok k  x2_0 hx2_0) (by kernel_rfl) (opsD_run 1 (l' := (opsAt g10p19).toList.drop 2) (eE := ((43, .bool x2_0) :: E9)) (H' := (mkH [⟨[.int .i64 a2.f0, .str a2.f1, .int .i64 a2.f2], 0, false⟩])) (hs := []) (by kernel_rfl) (opsD_env (eE := [(43, .bool true), (42, .bool true), (0, .str a0), (1, .int .i64 a1), (5, .ptr 0 3 0), (8, .str z5)]) (congrArg (fun z : Bool => ([(43, .bool z), (42, .bool z), (0, .str a0), (1, .int .i64 a1), (5, .ptr 0 3 0), (8, .str z5)] : Env)) hb6) (opsD_run 2 (l' := (opsAt g10p19).toList.drop 4) (eE := E10) (H' := (mkH [⟨[.int .i64 a2.f0, .str a2.f1, .int .i64 a2.f2], 0, false⟩])) (hs := []) (by kernel_rfl) (opsD_call (l' := (opsAt g10p19).toList.drop 5) (eE := ((46, .int .i64 x2_4) :: E10)) (hs := [(mkH [⟨[.int .i64 a2.f0, .str a2.f1, .int .i64 a2.f2], 0, false⟩])]) (fi := 34) (args := [.str a0, .int .i64 a1]) (v := .int .i64 x2_4) (by kernel_rfl) (by kernel_rfl) (by kernel_rfl) (g34_ok k a0 a1 x2_4 hx2_4) (by kernel_rfl) (opsD_run 2 (l' := (opsAt g10p19).toList.drop 7) (eE := ((48, .int .i64 a1) :: (47, .str a0) :: (46, .int .i64 x2_4) :: E10)) (H' := (mkH [⟨[.int .i64 a2.f0, .str a2.f1, .int .i64 a2.f2], 0, false⟩])) (hs := []) (by kernel_rfl) (opsD_call (l' := (opsAt g10p19).toList.drop 8) (eE := ((49, .int .i64 x2_7) :: (48, .int .i64 a1) :: (47, .str a0) :: (46, .int .i64 x2_4) :: E10)) (hs := [(mkH [⟨[.int .i64 a2.f0, .str a2.f1, .int .i64 a2.f2], 0, false⟩])]) (fi := 35) (args := [.str a0, .int .i64 a1]) (v := .int .i64 x2_7) (by kernel_rfl) (by kernel_rfl) (by kernel_rfl) (g35_ok k a0 a1 x2_7 hx2_7) (by kernel_rfl) (opsD_run 3 (l' := (opsAt g10p19).toList.drop 11) (eE := E11) (H' := (mkH [⟨[.int .i64 a2.f0, .str a2.f1, .int .i64 a2.f2], 0, false⟩])) (hs := []) (by kernel_rfl) (opsD_env (eE := [(52, .bool false), (51, .bool false), (50, .bool false), (49, .int .i64 x2_7), (48, .int .i64 a1), (47, .str a0), (46, .int .i64 x2_4), (45, .int .i64 a1), (44, .str a0), (43, .bool true), (42, .bool true), (0, .str a0), (1, .int .i64 a1), (5, .ptr 0 3 0), (8, .str z5)]) (congrArg (fun z : Bool => ([(52, .bool z), (51, .bool z), (50, .bool z), (49, .int .i64 x2_7), (48, .int .i64 a1), (47, .str a0), (46, .int .i64 x2_4), (45, .int .i64 a1), (44, .str a0), (43, .bool true), (42, .bool true), (0, .str a0), (1, .int .i64 a1), (5, .ptr 0 3 0), (8, .str z5)] : Env)) hb7) (opsD_run 21 (l' := (opsAt g10p19).toList.drop 32) (eE := E20) (H' := (mkH [⟨[.int .i64 a2.f0, .str a2.f1, .int .i64 a2.f2], 0, false⟩])) (hs := [(mkH [⟨[.int .i64 a2.f0, .str a2.f1, .int .i64 a2.f2], 0, false⟩]), (mkH [⟨[.int .i64 a2.f0, .str a2.f1, .int .i64 a2.f2], 0, false⟩]), (mkH [⟨[.int .i64 a2.f0, .str a2.f1, .int .i64 a2.f2], 0, false⟩]), (mkH [⟨[.int .i64 a2.f0, .str a2.f1, .int .i64 a2.f2], 0, false⟩]), (mkH [⟨[.int .i64 a2.f0, .str a2.f1, .int .i64 a2.f2], 0, false⟩])]) (by kernel_rfl) (.nil))))))))))) (by kernel_rfl) (by kernel_rfl) (by kernel_rfl) ?_
      refine oR 1 (p' := .fin) (eE := E20) (H' := (mkH [⟨[.int .i64 a2.f0, .str a2.f1, .int .i64 a2.f2], 0, false⟩])) (by kernel_rfl) ?_
      exact oT (r := false) (xs := [.bool false]) (v := .bool false) (by kernel_rfl) (by kernel_rfl) (by kernel_rfl) (.pures (by kernel_rfl)) (by kernel_rfl)
    ·let E9 : Env := [(42, .bool x2_0), (0, .str a0), (1, .int .i64 a1), (5, .ptr 0 3 0), (8, .str z5)]
     let E21 : Env := [(6, .bool false), (72, .bool false), (71, .tuple []), (70, .tuple []), (69, .tuple []), (68, .tuple []), (67, .tuple []), (66, .bool false), (65, .bool false), (64, .tuple []), (63, .tuple []), (62, .tuple []), (61, .tuple []), (60, .tuple []), (59, .bool false), (58, .bool false), (57, .tuple []), (56, .tuple []), (55, .tuple []), (54, .tuple []), (53, .tuple []), (52, .bool false), (51, .bool false), (50, .tuple []), (49, .tuple []), (48, .tuple []), (47, .tuple []), (46, .tuple []), (45, .tuple []), (44, .tuple []), (43, .bool false), (42, .bool false), (0, .str a0), (1, .int .i64 a1), (5, .ptr 0 3 0), (8, .str z5)]
     refine ok_draw (p' := nav [0] g10p19) (eE := E21) (H' := (mkH [⟨[.int .i64 a2.f0, .str a2.f1, .int .i64 a2.f2], 0, false⟩])) (hs := [(mkH [⟨[.int .i64 a2.f0, .str a2.f1, .int .i64 a2.f2], 0, false⟩]), (mkH [⟨[.int .i64 a2.f0, .str a2.f1, .int .i64 a2.f2], 0, false⟩]), (mkH [⟨[.int .i64 a2.f0, .str a2.f1, .int .i64 a2.f2], 0, false⟩]), (mkH [⟨[.int .i64 a2.f0, .str a2.f1, .int .i64 a2.f2], 0, false⟩]), (mkH [⟨[.int .i64 a2.f0, .str a2.f1, .int .i64 a2.f2], 0, false⟩]), (mkH [⟨[.int .i64 a2.f0, .str a2.f1, .int .i64 a2.f2], 0, false⟩]), (mkH [⟨[.int .i64 a2.f0, .str a2.f1, .int .i64 a2.f2], 0, false⟩]), (mkH [⟨[.int .i64 a2.f0, .str a2.f1, .int .i64 a2.f2], 0, false⟩])]) [(0, 0, 0), (1, 0, 0), (3, 0, 0), (3, 0, 0), (15, 0, 0), (3, 0, 0), (3, 0, 0), (127, 0, 0), (255, 0, 0), (511, 0, 0), (1023, 0, 0), (2047, 3, 3), (4095, 0, 0), (2047, 3, 4), (16383, 0, 0), (32767, 0, 0), (65535, 0, 0), (131071, 0, 0), (262143, 5, 5), (524287, 0, 0), (262143, 5, 6), (2097151, 0, 0), (4194303, 0, 0), (8388607, 0, 0), (16777215, 0, 0), (33554431, 0, 0), (67108863, 7, 7), (134217727, 0, 0), (33554431, 0, 0), (536870911, 0, 0), (1073741823, 0, 0), (2147483647, 0, 0)] (by kernel_rfl) (by kernel_rfl) (by kernel_rfl) (opsD_call (l' := (opsAt g10p19).toList.drop 1) (eE := E9) (hs := [(mkH [⟨[.int .i64 a2.f0, .str a2.f1, .int .i64 a2.f2], 0, false⟩])]) (fi := 33) (args := []) (v := .bool x2_0) (by kernel_rfl) (by kernel_rfl) (by kernel_rfl) (g33_ok k  x2_0 hx2_0) (by kernel_rfl) (opsD_run 1 (l' := (opsAt g10p19).toList.drop 2) (eE := ((43, .bool x2_0) :: E9)) (H' := (mkH [⟨[.int .i64 a2.f0, .str a2.f1, .int .i64 a2.f2], 0, false⟩])) (hs := []) (by kernel_rfl) (opsD_env (eE := [(43, .bool false), (42, .bool false), (0, .str a0), (1, .int .i64 a1), (5, .ptr 0 3 0), (8, .str z5)]) (congrArg (fun z : Bool => ([(43, .bool z), (42, .bool z), (0, .str a0), (1, .int .i64 a1), (5, .ptr 0 3 0), (8, .str z5)] : Env)) hb6) (opsD_run 30 (l' := (opsAt g10p19).toList.drop 32) (eE := E21) (H' := (mkH [⟨[.int .i64 a2.f0, .str a2.f1, .int .i64 a2.f2], 0, false⟩])) (hs := [(mkH [⟨[.int .i64 a2.f0, .str a2.f1, .int .i64 a2.f2], 0, false⟩]), (mkH [⟨[.int .i64 a2.f0, .str a2.f1, .int .i64 a2.f2], 0, false⟩]), (mkH [⟨[.int .i64 a2.f0, .str a2.f1, .int .i64 a2.f2], 0, false⟩]), (mkH [⟨[.int .i64 a2.f0, .str a2.f1, .int .i64 a2.f2], 0, false⟩]), (mkH [⟨[.int .i64 a2.f0, .str a2.f1, .int .i64 a2.f2], 0, false⟩]), (mkH [⟨[.int .i64 a2.f0, .str a2.f1, .int .i64 a2.f2], 0, false⟩]), (mkH [⟨[.int .i64 a2.f0, .str a2.f1, .int .i64 a2.f2], 0, false⟩])]) (by kernel_rfl) (.nil))))) (by kernel_rfl) (by kernel_rfl) (by kernel_rfl) ?_
     refine oR 1 (p' := .fin) (eE := E21) (H' := (mkH [⟨[.int .i64 a2.f0, .str a2.f1, .int .i64 a2.f2], 0, false⟩])) (by kernel_rfl) ?_
     exact oT (r := false) (xs := [.bool false]) (v := .bool false) (by kernel_rfl) (by kernel_rfl) (by kernel_rfl) (.pures (by kernel_rfl)) (by kernel_rfl)
   ·refine oS 34 (b := eqL a2.f1 [40]) (by kernel_rfl) (fun hb => ?_) (fun hb => ?_)
    ·refine oR 5 (p' := g10p19) (eE := ((8, .str [41]) :: (34, .bool true) :: E8)) (H' := (mkH [⟨[.int .i64 a2.f0, .str a2.f1, .int .i64 a2.f2], 0, false⟩])) (by kernel_rfl) ?_
     refine oK [0, 1, 5, 8] (eE := [(0, .str a0), (1, .int .i64 a1), (5, .ptr 0 3 0), (8, .str [41])]) (by kernel_rfl) ?_
     exact hj5 ([41] : List Nat)
    ·refine oR 6 (p' := g10p20) (eE := ((36, .bool (eqL a2.f1 [123])) :: (37, .bool (eqL a2.f1 [123])) :: (34, .bool false) :: E8)) (H' := (mkH [⟨[.int .i64 a2.f0, .str a2.f1, .int .i64 a2.f2], 0, false⟩])) (by kernel_rfl) ?_
     refine oS 36 (b := eqL a2.f1 [123]) (by kernel_rfl) (fun hb => ?_) (fun hb => ?_)
     ·let E22 : Env := ((8, .str [125]) :: (36, .bool true) :: (36, .bool (eqL a2.f1 [123])) :: (37, .bool (eqL a2.f1 [123])) :: (34, .bool false) :: E8)
      refine oR 5 (p' := g10p19) (eE := E22) (H' := (mkH [⟨[.int .i64 a2.f0, .str a2.f1, .int .i64 a2.f2], 0, false⟩])) (by kernel_rfl) ?_
      refine oK [0, 1, 5, 8] (eE := [(0, .str a0), (1, .int .i64 a1), (5, .ptr 0 3 0), (8, .str [125])]) (by kernel_rfl) ?_
      exact hj5 ([125] : List Nat)
     ·let E23 : Env := ((38, .bool (eqL a2.f1 [91])) :: (39, .bool (eqL a2.f1 [91])) :: (36, .bool false) :: (36, .bool (eqL a2.f1 [123])) :: (37, .bool (eqL a2.f1 [123])) :: (34, .bool false) :: E8)
      refine oR 6 (p' := g10p23) (eE := E23) (H' := (mkH [⟨[.int .i64 a2.f0, .str a2.f1, .int .i64 a2.f2], 0, false⟩])) (by kernel_rfl) ?_
      refine oK [0, 1, 5, 8, 33, 38] (eE := [(0, .str a0), (1, .int .i64 a1), (5, .ptr 0 3 0), (8, .str []), (33, .str a2.f1), (38, .bool (eqL a2.f1 [91]))]) (by kernel_rfl) ?_
      refine oS 38 (b := eqL a2.f1 [91]) (by kernel_rfl) (fun hb => ?_) (fun hb => ?_)
      ·let E24 : Env := [(8, .str [93]), (38, .bool true), (0, .str a0), (1, .int .i64 a1), (5, .ptr 0 3 0), (8, .str []), (33, .str a2.f1), (38, .bool (eqL a2.f1 [91]))]
       refine oR 5 (p' := g10p19) (eE := E24) (H' := (mkH [⟨[.int .i64 a2.f0, .str a2.f1, .int .i64 a2.f2], 0, false⟩])) (by kernel_rfl) ?_
       refine oK [0, 1, 5, 8] (eE := [(0, .str a0), (1, .int .i64 a1), (5, .ptr 0 3 0), (8, .str [93])]) (by kernel_rfl) ?_
       exact hj5 ([93] : List Nat)
      ·let E25 : Env := [(40, .bool (eqL a2.f1 [60, 60])), (41, .bool (eqL a2.f1 [60, 60])), (38, .bool false), (0, .str a0), (1, .int .i64 a1), (5, .ptr 0 3 0), (8, .str []), (33, .str a2.f1), (38, .bool (eqL a2.f1 [91]))]
       refine oR 6 (p' := g10p26) (eE := E25) (H' := (mkH [⟨[.int .i64 a2.f0, .str a2.f1, .int .i64 a2.f2], 0, false⟩])) (by kernel_rfl) ?_
       refine oS 40 (b := eqL a2.f1 [60, 60]) (by kernel_rfl) (fun hb => ?_) (fun hb => ?_)
       ·refine oR 5 (p' := g10p19) (eE := ((8, .str [62, 62]) :: (40, .bool true) :: E25)) (H' := (mkH [⟨[.int .i64 a2.f0, .str a2.f1, .int .i64 a2.f2], 0, false⟩])) (by kernel_rfl) ?_
        refine oK [0, 1, 5, 8] (eE := [(0, .str a0), (1, .int .i64 a1), (5, .ptr 0 3 0), (8, .str [62, 62])]) (by kernel_rfl) ?_
        exact hj5 ([62, 62] : List Nat)
       ·refine oR 3 (p' := g10p19) (eE := ((40, .bool false) :: E25)) (H' := (mkH [⟨[.int .i64 a2.f0, .str a2.f1, .int .i64 a2.f2], 0, false⟩])) (by kernel_rfl) ?_
        refine oK [0, 1, 5, 8] (eE := [(0, .str a0), (1, .int .i64 a1), (5, .ptr 0 3 0), (8, .str [])]) (by kernel_rfl) ?_
        exact hj5 ([] : List Nat)
def g10 (k : Nat) (a0 : (List Nat)) (a1 : Int) (a2 : S37) : Option Bool :=
 jn (fun (z3 : Bool) => if z3 then ((g33 k).bind fun x0_0 => some x0_0) else (g10_l4 k a0 a1 a2 k 0)) (fun j3 => if (decide (100 < (a0.length : Int))) then (j3 true) else (j3 (decide (100 < (a2.f1.length : Int)))))
theorem g10_ok (k : Nat) (a0 : (List Nat)) (a1 : Int) (a2 : S37) (r : Bool) (h : g10 k a0 a1 a2 = some r) : PureOk Try.prog 10 [.str a0, .int .i64 a1, .agg [.int .i64 a2.f0, .str a2.f1, .int .i64 a2.f2]] (.bool r) := by
 refine pure_of X10 (fun _ => rfl) Try.func10 (by decide +kernel) (by kernel_rfl) (t := g10 k a0 a1 a2) ?_ h
 unfold g10
 refine oE (eE := [(0, .str a0), (1, .int .i64 a1), (2, .agg [.int .i64 a2.f0, .str a2.f1, .int .i64 a2.f2])]) (by kernel_rfl) ?_
 let E1 : Env := [(12, .bool (decide (100 < (a0.length : Int)))), (11, .bool (decide (100 < (a0.length : Int)))), (10, .int .i64 (a0.length : Int)), (9, .str a0), (6, .bool false), (5, .ptr 0 3 0), (0, .str a0), (1, .int .i64 a1), (2, .agg [.int .i64 a2.f0, .str a2.f1, .int .i64 a2.f2])]
 refine oR 12 (p' := (atN 4 (ctl1 g10p1))) (eE := E1) (H' := (mkH [⟨[.int .i64 a2.f0, .str a2.f1, .int .i64 a2.f2], 0, false⟩])) (by kernel_rfl) ?_
 refine oJ (f := fun (z3 : Bool) => if z3 then ((g33 k).bind fun x0_0 => some x0_0) else (g10_l4 k a0 a1 a2 k 0)) g10p2 (fun (z3 : Bool) => [(0, .str a0), (1, .int .i64 a1), (5, .ptr 0 3 0), (17, .bool z3)]) (fun (z3 : Bool) => (mkH [⟨[.int .i64 a2.f0, .str a2.f1, .int .i64 a2.f2], 0, false⟩])) (fun z3 => ?_) (fun j3 hj3 => ?_)
 ·refine oS 17 (b := z3) (by kernel_rfl) (fun hb => ?_) (fun hb => ?_)
  ·let E2 : Env := [(17, .bool true), (0, .str a0), (1, .int .i64 a1), (5, .ptr 0 3 0), (17, .bool z3)]
   refine oR 3 (p' := (atN 0 (ctl1 g10p3))) (eE := E2) (H' := (mkH [⟨[.int .i64 a2.f0, .str a2.f1, .int .i64 a2.f2], 0, false⟩])) (by kernel_rfl) ?_
   refine oC (fun (x0_0 : Bool) => .bool x0_0) (atN 1 (ctl1 g10p3)) (fun x0_0 => ((18, .bool x0_0) :: E2)) (fi := 33) (args := []) (by kernel_rfl) (by kernel_rfl) (fun _ => by kernel_rfl) (fun r h => g33_ok k  r h) (fun _ => by kernel_rfl) (fun x0_0 hx0_0 => ?_)
   refine oR 3 (p' := .fin) (eE := ((6, .bool x0_0) :: (18, .bool x0_0) :: E2)) (H' := (mkH [⟨[.int .i64 a2.f0, .str a2.f1, .int .i64 a2.f2], 0, false⟩])) (by kernel_rfl) ?_
   exact oT (r := x0_0) (xs := [.bool x0_0]) (v := .bool x0_0) (by kernel_rfl) (by kernel_rfl) (by kernel_rfl) (.pures (by kernel_rfl)) (by kernel_rfl)
  ·let E3 : Env := [(7, .int .i64 0), (17, .bool false), (0, .str a0), (1, .int .i64 a1), (5, .ptr 0 3 0), (17, .bool z3)]
   refine oR 9 (p' := g10p6) (eE := E3) (H' := (mkH [⟨[.int .i64 a2.f0, .str a2.f1, .int .i64 a2.f2], 0, false⟩])) (by kernel_rfl) ?_
   refine oK [0, 1, 5, 7] (eE := [(0, .str a0), (1, .int .i64 a1), (5, .ptr 0 3 0), (7, .int .i64 0)]) (by kernel_rfl) ?_
   exact (g10_l4_ok k a0 a1 a2 k) 0
 ·refine oS 12 (b := decide (100 < (a0.length : Int))) (by kernel_rfl) (fun hb => ?_) (fun hb => ?_)
  ·let E26 : Env := ((17, .bool true) :: (16, .tuple []) :: (15, .tuple []) :: (14, .tuple []) :: (13, .tuple []) :: (12, .bool true) :: E1)
   refine oR 6 (p' := g10p2) (eE := E26) (H' := (mkH [⟨[.int .i64 a2.f0, .str a2.f1, .int .i64 a2.f2], 0, false⟩])) (by kernel_rfl) ?_
   refine oK [0, 1, 5, 17] (eE := [(0, .str a0), (1, .int .i64 a1), (5, .ptr 0 3 0), (17, .bool true)]) (by kernel_rfl) ?_
   exact hj3 true
  ·let E27 : Env := ((17, .bool (decide (100 < (a2.f1.length : Int)))) :: (16, .bool (decide (100 < (a2.f1.length : Int)))) :: (15, .int .i64 (a2.f1.length : Int)) :: (14, .str a2.f1) :: (13, .ptr 0 3 1) :: (12, .bool false) :: E1)
   refine oR 6 (p' := g10p2) (eE := E27) (H' := (mkH [⟨[.int .i64 a2.f0, .str a2.f1, .int .i64 a2.f2], 0, false⟩])) (by kernel_rfl) ?_
   refine oK [0, 1, 5, 17] (eE := [(0, .str a0), (1, .int .i64 a1), (5, .ptr 0 3 0), (17, .bool (decide (100 < (a2.f1.length : Int))))]) (by kernel_rfl) ?_
   exact hj3 (decide (100 < (a2.f1.length : Int)))
end
end Go.Proofs.Ytnikdnchoahngaa.Am
set_option maxRecDepth 100000
set_option linter.unusedVariables false
set_option linter.unusedSimpArgs false
namespace Go.Proofs.Ytnikdnchoahngaa.Am
open Go
theorem told5 (k : Nat) : g33 (k + 60) = some true := by kernel_rfl
theorem longest_i (k : Nat) {s : List Nat} {i : Nat} (h : i < s.length) : g34 k s (i : Int) = some ((lngN (s.drop i) : Nat) : Int) := by
 have hd : s.drop i ≠ [] := by
  intro e
  have := List.drop_eq_nil_iff.1 e
  omega
 rw [← longest_at k hd]
 unfold g34
 refine (jS (v := false) (fun j => ?_)).trans ?_
 ·refine iF (dF (by omega)) ?_
  rw [dF (by omega)]
 ·refine iF rfl ?_
  refine bS (by (try simp (disch := omega) only [fwI]); exact subFrom rfl (by omega)) ?_
  refine Eq.symm ?_
  refine (jS (v := false) (fun j => ?_)).trans ?_
  ·refine iF rfl ?_
   rw [dF (by have := List.length_pos_iff.2 hd; omega)]
  ·refine iF rfl ?_
   refine bS (by (try simp (disch := omega) only [fwI]); exact subFrom (i := 0) rfl (Nat.zero_le _)) ?_
   rw [List.drop_zero]
theorem longest_out (k : Nat) {s : List Nat} {a : Int} (h : a < 0 ∨ (s.length : Int) ≤ a) : g34 k s a = some 0 := by
 unfold g34
 refine (jS (v := true) (fun j => ?_)).trans rfl
 by_cases h0 : a < 0
 ·exact iT (dT h0) rfl
 ·refine iF (dF h0) ?_
  rw [dT (by omega)]
theorem rlongest_out {k : Nat} (hk : 38 ≤ k) {s : List Nat} (hl : Sz s) {a : Int} (h : a < 0 ∨ (s.length : Int) ≤ a) : g35 k s a = some 0 := by
 by_cases he : a = (s.length : Int)
 ·rw [he, rlongest_at hk hl (Nat.le_refl _), List.drop_length]; rfl
 ·unfold g35
  refine (jS (v := true) (fun j => ?_)).trans rfl
  by_cases h0 : a < 0
  ·exact iT (dT h0) rfl
  ·refine iF (dF h0) ?_
   rw [dT (by omega)]
theorem both_at {k : Nat} (hk : 38 ≤ k) {s : List Nat} (hl : Sz s) (a : Int) : ∃ r, g34 k s a = some r ∧ g35 k s a = some r := by
 by_cases h : a < 0 ∨ (s.length : Int) ≤ a
 ·exact ⟨0, longest_out k h, rlongest_out hk hl h⟩
 ·obtain ⟨n, rfl⟩ : ∃ n : Nat, a = (n : Int) := ⟨a.toNat, by omega⟩
  exact ⟨_, longest_i k (by omega), rlongest_at hk hl (by omega)⟩
theorem eqL_self (s : List Nat) : eqL s s = true := (eqL_iff s s).2 rfl
theorem signasks_l (k : Nat) {s : List Nat} (hl : s.length ≤ 100) (a1 : Int) (a2 : S37) : ∀ (d i f : Nat), i + d = s.length → d < f → g10_l4 (k + 60) s a1 a2 f (i : Int) = some true
 | d, i, 0, h, hf => by omega
 | d + 1, i, f + 1, h, hf => by
  have hsz : Sz s := show s.length ≤ _ by omega
  have ih := signasks_l k hl a1 a2 d (i + 1) f (by omega) (by omega)
  obtain ⟨r, h1, h2⟩ := both_at (k := k + 60) (by omega) hsz (i : Int)
  rw [g10_l4_s]
  refine iT (dT (by omega)) ?_
  refine bS (by (try simp (disch := omega) only [fwI]); exact h1) ?_
  refine bS (by (try simp (disch := omega) only [fwI]); exact h2) ?_
  refine iF (by rw [dT rfl]; rfl) ?_
  rw [fw_s (by omega)]
  exact ih
 | 0, i, f + 1, h, hf => by
  have hsz : Sz s := show s.length ≤ _ by omega
  obtain ⟨r, h1, h2⟩ := both_at (k := k + 60) (by omega) hsz a1
  rw [g10_l4_s]
  refine iF (dF (by omega)) ?_
  obtain ⟨p, hp⟩ : ∃ p, g40 (k + 60) a2.f1 = some p := by
   obtain ⟨p, hp, -⟩ := pair_ne (k + 60) a2.f1
   exact ⟨p, hp⟩
  refine (jS (v := p) (fun j => ?_)).trans ?_
  ·unfold g40 at hp
   revert hp
   cases eqL a2.f1 [40]
   ·cases eqL a2.f1 [123]
    ·cases eqL a2.f1 [91]
     ·cases eqL a2.f1 [60, 60]
      ·intro hp; cases hp; rfl
      ·intro hp; cases hp; rfl
     ·intro hp; cases hp; rfl
    ·intro hp; cases hp; rfl
   ·intro hp; cases hp; rfl
  ·refine bS (by (try simp (disch := omega) only [fwI]); exact told5 k) ?_
   refine iT rfl ?_
   refine bS (by (try simp (disch := omega) only [fwI]); exact h1) ?_
   refine bS (by (try simp (disch := omega) only [fwI]); exact h2) ?_
   refine iT (dT rfl) ?_
   refine bS (by (try simp (disch := omega) only [fwI]); exact opens_at (k + 60) (⟨a2.f0, a2.f1, a2.f2⟩ : S37)) ?_
   refine bS (by (try simp (disch := omega) only [fwI]); exact ropens_at k (⟨a2.f0, a2.f1, a2.f2⟩ : S37)) ?_
   refine iT (by simp) ?_
   refine bS (by (try simp (disch := omega) only [fwI]); exact closes_at (k + 60) (⟨a2.f0, a2.f1, a2.f2⟩ : S37)) ?_
   refine bS (by (try simp (disch := omega) only [fwI]); exact rcloses_at k (⟨a2.f0, a2.f1, a2.f2⟩ : S37)) ?_
   refine iT (by simp) ?_
   refine bS (by (try simp (disch := omega) only [fwI]); exact hp) ?_
   rw [eqL_self]
theorem signAsks_true (s : List Nat) (a1 : Int) (a2 : S37) (hs : ∀ b ∈ s, b < 256) (hl : s.length ≤ 140737488351232) (hq : (-9223372036854775808 ≤ a2.f0 ∧ a2.f0 ≤ 9223372036854775807) ∧ ((∀ b ∈ a2.f1, b < 256) ∧ a2.f1.length ≤ 9223372036854775807) ∧ (-9223372036854775808 ≤ a2.f2 ∧ a2.f2 ≤ 9223372036854775807) ∧ True) : ∃ k, g10 k s a1 a2 = some true := by
 refine ⟨240 + 60, ?_⟩
 unfold g10
 by_cases h : 100 < s.length ∨ 100 < a2.f1.length
 ·refine (jS (v := true) (fun j => ?_)).trans ?_
  ·by_cases h1 : 100 < s.length
   ·exact iT (dT (by omega)) rfl
   ·refine iF (dF (by omega)) ?_
    rw [dT (by omega)]
  ·refine iT rfl ?_
   refine bS (by (try simp (disch := omega) only [fwI]); exact told5 240) ?_
   rfl
 ·refine (jS (v := false) (fun j => ?_)).trans ?_
  ·refine iF (dF (by omega)) ?_
   rw [dF (by omega)]
  ·refine iF rfl ?_
   exact signasks_l 240 (by omega) a1 a2 s.length 0 (240 + 60) (by omega) (by omega)
end Go.Proofs.Ytnikdnchoahngaa.Am
set_option linter.unusedVariables false
namespace Go.Proofs.Ytnikdnchoahngaa.Am
open Go Go.ChangeShapes Go.WideShapes
def mpOf (fz : List (Nat × List AV)) : Mp := ⟨fun _ _ => none, fun i => fz[i]?⟩
theorem law_walk_fz {P : Program} {n : Nat} {xs : List AV} {args : Array Value} (h : PureOk P n xs (.bool true)) (w : World) (fz : List (Nat × List AV)) (hargs : VRs (mpOf fz) xs args.toList)
 (hfz : ∀ p ∈ fz, ∃ cs ty fr, w.heap[p.1]? = some (.cells cs ty fr) ∧ p.2.length ≤ cs.size ∧ VRs (mpOf fz) p.2 (cs.toList.take p.2.length)) :
 Calls P n args w fun e W' => e = .returned (.bool true) ∧ RowKit.Below w.heap.size w W' := by
 refine Calls.mono (h.1 (mpOf fz) w args (fun _ _ => rfl) hargs ?_) ?_
 ·refine ⟨?_, ?_, ?_, fun _ _ => rfl, ?_, ?_, ?_, ⟨fz.length, fun i hi => List.getElem?_eq_none hi⟩, Nat.le_refl _, by show 0 ≤ roots; unfold roots; omega⟩
  ·intro r b v B N hb hm; cases hm
  ·intro r v B N hm; cases hm
  ·intro r v B N r' v' N' hm; cases hm
  ·intro r v B N hm; cases hm
  ·intro i B cells hi
   exact hfz (B, cells) (List.mem_of_getElem? hi)
  ·intro i B cells r v N b _ hm; cases hm
 ·rintro e w' ⟨m', c, rfl, q1, q2, q3⟩
  simp only [VR] at q3
  exact ⟨by rw [q3], q2.below (Nat.le_refl _)⟩
section
variable {H : Type} {enc : TypeId × Value → H} {P : Program} {w : World} {base : Nat} {held : Bool}
end
end Go.Proofs.Ytnikdnchoahngaa.Am
set_option linter.unusedVariables false
namespace Go.Proofs.Ytnikdnchoahngaa.Am
open Go Go.ChangeShapes Go.WideShapes
section
variable {H : Type} {enc : TypeId × Value → H} {P : Program} {w : World} {base : Nat} {held : Bool}
end
theorem VRs_nil (m : Mp) : VRs m [] [] := by simp only [VRs]
theorem VRs_cons {m : Mp} {x : AV} {y : Value} {xs : List AV} {ys : List Value} (h : VR m x y) (k : VRs m xs ys) : VRs m (x :: xs) (y :: ys) := by simp only [VRs]; exact ⟨y, ys, rfl, h, k⟩
theorem VR_int (m : Mp) (k : IntKind) (n : Int) : VR m (.int k n) (.int k n) := by simp only [VR]
theorem VR_str (m : Mp) (s : ByteArray) : VR m (.str (s.data.toList.map (·.toNat))) (.string s) := by simp only [VR]; exact ⟨s, rfl, rfl⟩
theorem VR_agg {m : Mp} {xs : List AV} {c : Array Value} (h : VRs m xs c.toList) : VR m (.agg xs) (.agg c) := by simp only [VR]; exact ⟨c, rfl, h⟩
end Go.Proofs.Ytnikdnchoahngaa.Am
set_option linter.unusedVariables false
set_option linter.unusedSimpArgs false
namespace Go.Proofs.Ytnikdnchoahngaa.Am
open Go Go.ChangeShapes Go.WideShapes
theorem opn38 {H : Type} {enc : TypeId × Value → H} {w : World} {base : Nat} {sp : Nat → Bool} {held : Bool} {fuel : Nat} {cs : List Value} {y : DataW H × List MemPlace} (h : DataW.trod enc Try.prog w base sp held fuel 38 cs = some y) : ∃ x : S37, ((-9223372036854775808 ≤ x.f0 ∧ x.f0 ≤ 9223372036854775807) ∧ ((∀ b ∈ x.f1, b < 256) ∧ x.f1.length ≤ 9223372036854775807) ∧ (-9223372036854775808 ≤ x.f2 ∧ x.f2 ≤ 9223372036854775807) ∧ True) ∧ ∀ m, VRs m (e38 x) cs := by
 obtain ⟨xs, n, -, -, hl, hx, hf⟩ := DataW.trod_struct Try.underlying38 h
 rw [show Try.prog.cellsOf 38 = 3 from by kernel_rfl] at hl
 obtain ⟨c0, c1, c2, rfl⟩ : ∃ c0 c1 c2, cs = [c0, c1, c2] := match cs, hl with | [c0, c1, c2], _ => ⟨c0, c1, c2, rfl⟩
 have hf0 : DataW.trod enc Try.prog w base sp held n 3 (([c0, c1, c2].drop 0).take (Try.prog.cellsOf 3)) = xs[0]? := hf 0 _ rfl
 rw [show Try.prog.cellsOf 3 = 1 from by kernel_rfl, List.getElem?_eq_getElem (by rw [hx]; show 0 < 3; decide)] at hf0
 have hf0 : DataW.trod enc Try.prog w base sp held n 3 [c0] = some _ := hf0
 obtain ⟨n0, z0, -, w0⟩ := DataW.trod_int Try.underlying3 hf0
 have y0 := (List.cons.inj z0).1
 have hf1 : DataW.trod enc Try.prog w base sp held n 9 (([c0, c1, c2].drop 1).take (Try.prog.cellsOf 9)) = xs[1]? := hf 1 _ rfl
 rw [show Try.prog.cellsOf 9 = 1 from by kernel_rfl, List.getElem?_eq_getElem (by rw [hx]; show 1 < 3; decide)] at hf1
 have hf1 : DataW.trod enc Try.prog w base sp held n 9 [c1] = some _ := hf1
 obtain ⟨n1, z1, -, w1⟩ := DataW.trod_string Try.underlying9 hf1
 have y1 := (List.cons.inj z1).1
 have hf2 : DataW.trod enc Try.prog w base sp held n 3 (([c0, c1, c2].drop 2).take (Try.prog.cellsOf 3)) = xs[2]? := hf 2 _ rfl
 rw [show Try.prog.cellsOf 3 = 1 from by kernel_rfl, List.getElem?_eq_getElem (by rw [hx]; show 2 < 3; decide)] at hf2
 have hf2 : DataW.trod enc Try.prog w base sp held n 3 [c2] = some _ := hf2
 obtain ⟨n2, z2, -, w2⟩ := DataW.trod_int Try.underlying3 hf2
 have y2 := (List.cons.inj z2).1
 subst y0 y1 y2
 exact ⟨⟨n0, (n1.data.toList.map (·.toNat)), n2⟩, ⟨(by simpa [Lit.wf, IntKind.min, IntKind.max, IntKind.signed, IntKind.bits] using w0), ⟨bytes_lt n1, by simpa [maxLen] using w1⟩, (by simpa [Lit.wf, IntKind.min, IntKind.max, IntKind.signed, IntKind.bits] using w2), trivial⟩, fun m => VRs_cons (VR_int m .i64 n0) (VRs_cons (VR_str m n1) (VRs_cons (VR_int m .i64 n2) (VRs_nil m)))⟩
theorem signAsks_walk (a0 : ByteArray) (a1 : Int) (c2 : Array Value) (a2 : S37) (W : World) (w0 : a0.size ≤ 140737488351232) (w1 : (Lit.int .i64 a1).wf = true) (u2 : ∀ m, VRs m (e38 a2) c2.toList) (w2 : (-9223372036854775808 ≤ a2.f0 ∧ a2.f0 ≤ 9223372036854775807) ∧ ((∀ b ∈ a2.f1, b < 256) ∧ a2.f1.length ≤ 9223372036854775807) ∧ (-9223372036854775808 ≤ a2.f2 ∧ a2.f2 ≤ 9223372036854775807) ∧ True) : Calls Try.prog 10 #[.string a0, .int .i64 a1, .agg c2] W fun e W' => e = .returned (.bool true) ∧ RowKit.Below W.heap.size W W' := by
 obtain ⟨k, h⟩ := signAsks_true (a0.data.toList.map (·.toNat)) a1 a2 (bytes_lt a0) (by simpa using w0) w2
 refine law_walk_fz (g10_ok k (a0.data.toList.map (·.toNat)) a1 a2 true h) W [] ?_ ?_
 ·exact VRs_cons (VR_str _ a0) (VRs_cons (VR_int _ .i64 a1) (VRs_cons (VR_agg (u2 _)) (VRs_nil _)))
 intro p hp
 cases hp
end Go.Proofs.Ytnikdnchoahngaa.Am
namespace Go.Proofs.Ytnikdnchoahngaa.signAsks
open Go.ChangeShapes Go.WideShapes Go.ChangeAt Go.RowKit
open Go.ChangeMaps (open_string shut_string)
set_option linter.unusedVariables false
theorem laidOut : laidOutB Try.prog = true := by kernel_rfl
theorem own : ownKnob Try.prog.godebug = none := by kernel_rfl
set_option maxRecDepth 100000 in
theorem lifted (os : Os) (started : os.Started) (H : Type) (enc : TypeId × Value → H) :
 ReturnsInHanded {} Try.checked os 10 .any (Rows.signAsksSpec.pre6 enc Try.prog Try.f10 Rows.signAsksRow.domain false) (Rows.signAsksSpec.post enc Try.prog Try.f10 false true false false) := by
 refine returnsInHanded_of_change_sized (C := Try.checked) own started (by kernel_rfl) Try.func10
  (ChangeSpec.witness6 (enc := enc) (C := Try.checked) false ⟨#[], #[.string ByteArray.empty, .int .i64 0, .agg #[.int .i64 0, .string ByteArray.empty, .int .i64 0]], []⟩ 8 (by kernel_rfl) (by kernel_rfl) (by kernel_rfl) (by kernel_rfl)) ?_
 intro W base args ds gs before hval0 hW hcnd hsz0 _
 have hsz : (DataW.weightsEach Try.prog (Try.f10.params.toList ++ Rows.signAsksSpec.plain.varTypes Try.prog) (ds ++ gs)).all (· ≤ reachBytes) = true := hsz0
 have hval : ∀ (j : Nat) t v, Try.f10.params[j]? = some t → args[j]? = some v → Value.okWide Try.prog W .any base t v := hval0
 have hW' := hW
 obtain ⟨p, q, hA0, hV, rfl, hfz, hnd⟩ := hW
 have hA : DataW.TrodAll enc Try.prog W 0 (fun _ => true) true Try.f10.params.toList args.toList ds p := hA0
 rw [Try.params10] at hA hval hsz
 obtain ⟨v0, vs0, d0, ds0, p0, q0, hargs, rfl, rfl, h0, r0⟩ := trodAll_cons hA
 obtain ⟨v1, vs1, d1, ds1, p1, q1, rfl, rfl, rfl, h1, r1⟩ := trodAll_cons r0
 obtain ⟨v2, vs2, d2, ds2, p2, q2, rfl, rfl, rfl, h2, r2⟩ := trodAll_cons r1
 obtain ⟨rfl, rfl, rfl⟩ := trodAll_nil r2
 obtain rfl : args = #[v0, v1, v2] := by cases args; simp_all
 obtain ⟨rfl, rfl⟩ := trodVars_none hV
 obtain ⟨a0, rfl, rfl, rfl, y0⟩ := open_string Try.underlying9 (hval 0 9 v0 rfl rfl) h0
 have w0 : a0.size ≤ 140737488351232 := by
  have z := sized_string hsz (j := 0) (t := 9) rfl rfl
  rw [Array.length_toList] at z
  exact z
 obtain ⟨a1, rfl, rfl, rfl, w1⟩ := open_int Try.underlying3 (hval 1 3 v1 rfl rfl) h1
 obtain ⟨c2, rfl, -⟩ := okWide_struct Try.underlying38 (hval 2 38 v2 rfl rfl)
 have k2 := h2
 have lt2 : ∀ x ∈ p2, x.block < W.heap.size := by obtain ⟨m, hm⟩ := k2; exact DataW.trod_lt m _ _ _ hm
 have g2 : ∃ x : Am.S37, ((-9223372036854775808 ≤ x.f0 ∧ x.f0 ≤ 9223372036854775807) ∧ ((∀ b ∈ x.f1, b < 256) ∧ x.f1.length ≤ 9223372036854775807) ∧ (-9223372036854775808 ≤ x.f2 ∧ x.f2 ≤ 9223372036854775807) ∧ True) ∧ ∀ m, Am.VRs m (Am.e38 x) c2.toList := by obtain ⟨m, hm⟩ := h2; exact Am.opn38 hm
 obtain ⟨a2, w2, u2⟩ := g2
 clear hA0 hval0 hsz0 hsz
 refine (Am.signAsks_walk a0 a1 c2 a2 W w0 w1 u2 w2).mono fun e W' ⟨he, bel⟩ => ?_
 subst he
 exact ⟨_, rfl, _, _, _, [], _, [], hW', trodAll_mk1 (shut_bool Try.underlying4 _), (trodAll_cons_mk (shut_string Try.underlying9 y0) (trodAll_cons_mk (shut_int Try.underlying3 w1) (trodAll_cons_mk (Below.trod laidOut (by kernel_rfl) (of_decide_eq_true (by kernel_rfl)) k2 bel lt2) trodAll_mk0))), rfl, bel.frame _, fun h => by cases h⟩
theorem over : Rows.signAsksRow.holds Try.pinned (OpenSpec.ofChange Rows.signAsksSpec) :=
 OpenClaim.holds_of_wide 10 Try.f10 rfl rfl rfl rfl rfl rfl rfl ⟨rfl, rfl, rfl, rfl, rfl⟩ rfl rfl rfl rfl rfl (by kernel_rfl) Try.func10 (by kernel_rfl)
  (of_decide_eq_true (by kernel_rfl)) (by unfold Func.isWrapper; first | (rw [if_pos (by decide +kernel)]; kernel_rfl) | (rw [if_neg (by decide +kernel)]; exact ⟨rfl, rfl⟩))
  (fun os started H enc _ => lifted os started H enc)
theorem proved : Rows.SignAsksSaid := over
#print axioms proved
end Go.Proofs.Ytnikdnchoahngaa.signAsks
namespace Go.Proofs.Ytnikdnchoahngaa
theorem signAsks_holds : Rows.SignAsksSaid := signAsks.proved
end Go.Proofs.Ytnikdnchoahngaa
