/- Function 19, plain, and that the program computes it. Printed by gen.py. -/
import Derived.Test.YtfkefelgjbfkjaaTy
import Derived.Test.YtfkefelgjbfkjaaG32
import Derived.Test.YtfkefelgjbfkjaaG33
set_option maxRecDepth 100000
set_option linter.unusedVariables false
namespace Go.Proofs.Ytfkefelgjbfkjaa.Am
open Go

/-! 19 galley/utf.Put -/
noncomputable def X19 : Fx (List Nat) := ⟨Try.prog, cx, Try.f19, fun r => .str r, 0, fun _ => H0, cxTi, cxOrd⟩
noncomputable def g19p0 : Pt := nav [0] (bodyAt Try.f19)
noncomputable def g19p1 : Pt := nav [0, 0, 0, 0] g19p0
noncomputable def g19p2 : Pt := nav [0, 0] g19p1
noncomputable def g19p3 : Pt := nav [1, 0] g19p2
noncomputable def g19p4 : Pt := nav [2, 0, 0] g19p2
noncomputable def g19p6 : Pt := nav [0, 0, 0, 0, 0] g19p4
noncomputable def g19p7 : Pt := nav [0, 0, 0] g19p6
noncomputable def g19p8 : Pt := nav [0, 0] g19p7
noncomputable def g19p9 : Pt := nav [1, 0, 0] g19p8
noncomputable def g19p10 : Pt := nav [2, 0, 0, 0] g19p8
noncomputable def g19p11 : Pt := nav [0, 0] g19p10
noncomputable def g19p12 : Pt := nav [1, 0] g19p11
noncomputable def g19p13 : Pt := nav [2, 0, 0] g19p11
noncomputable def g19p14 : Pt := nav [0, 0, 0, 0] g19p13
noncomputable def g19p15 : Pt := nav [0, 0, 0, 0] g19p14
noncomputable def g19p16 : Pt := nav [0, 0, 0] g19p15
noncomputable def g19p17 : Pt := nav [0, 0] g19p16
noncomputable def g19p18 : Pt := nav [1, 0, 0, 0, 0] g19p17
noncomputable def g19p19 : Pt := nav [2, 0, 0] g19p17
noncomputable def g19p20 : Pt := nav [0, 0] g19p18
noncomputable def g19p21 : Pt := nav [0, 0, 0] g19p19
noncomputable def g19p22 : Pt := nav [0, 0] g19p20
noncomputable def g19_l9 (k : Nat)  (z8 : Int × Bool) (n : Nat) : Int → Int → (List Int) → Option (List Nat) :=
  Nat.rec (motive := fun _ => Int → Int → (List Int) → Option (List Nat)) (fun _ _ _ => none) (fun _ ih => fun (y9_0 : Int) (y9_1 : Int) (y9_2 : (List Int)) => if (decide (0 < y9_1)) then ((idxO y9_2 y9_1).bind fun x4_6 => (setO y9_2 x4_6 (orI .u8 (andI .u8 (fwrap .u8 y9_0) 63) 128)).bind fun x4_7 => ih (shrC y9_0 6) (fwrap .i64 (y9_1 - 1)) x4_7) else ((shlS .u8 255 (fwrap .i64 (8 - z8.1))).bind fun x5_5 => (idxO y9_2 0).bind fun x5_7 => (setO y9_2 x5_7 (orI .u8 (fwrap .u8 y9_0) x5_5)).bind fun x5_8 => (toS x5_8).bind fun x6_1 => some x6_1)) n
theorem g19_l9_s (k : Nat)  (z8 : Int × Bool) (n : Nat) (y9_0 : Int) (y9_1 : Int) (y9_2 : (List Int)) : g19_l9 k z8 (n + 1) y9_0 y9_1 y9_2 = (if (decide (0 < y9_1)) then ((idxO y9_2 y9_1).bind fun x4_6 => (setO y9_2 x4_6 (orI .u8 (andI .u8 (fwrap .u8 y9_0) 63) 128)).bind fun x4_7 => (g19_l9 k z8 n) (shrC y9_0 6) (fwrap .i64 (y9_1 - 1)) x4_7) else ((shlS .u8 255 (fwrap .i64 (8 - z8.1))).bind fun x5_5 => (idxO y9_2 0).bind fun x5_7 => (setO y9_2 x5_7 (orI .u8 (fwrap .u8 y9_0) x5_5)).bind fun x5_8 => (toS x5_8).bind fun x6_1 => some x6_1)) := rfl
theorem g19_l9_ok (k : Nat)  (z8 : Int × Bool)  : ∀ (n : Nat) (y9_0 : Int) (y9_1 : Int) (y9_2 : (List Int)), Ok X19 g19p15 [(0, .int .i64 y9_0), (3, .int .i64 z8.1), (4, .own 0 (y9_2).length 1), (5, .int .i64 y9_1)] (mkH [⟨(y9_2).flatMap e5, (y9_2).length * 1, false⟩]) (g19_l9 k z8 n y9_0 y9_1 y9_2)
  | 0, _, _, _ => ok_none
  | n + 1, y9_0, y9_1, y9_2 => by
    have ih := g19_l9_ok k z8 n
    rw [g19_l9_s]
    refine ok_ent (p' := nav [0] g19p15) (by kernel_rfl) ?_
    let E8 : Env := [(31, .bool (decide (0 < y9_1))), (30, .int .i64 y9_1), (0, .int .i64 y9_0), (3, .int .i64 z8.1), (4, .own 0 (y9_2).length 1), (5, .int .i64 y9_1)]
    refine ok_run 6 (p' := g19p17) (env' := E8) (H' := (mkH [⟨(y9_2).flatMap e5, (y9_2).length * 1, false⟩])) (by kernel_rfl) ?_
    refine ok_split 31 (b := decide (0 < y9_1)) (by kernel_rfl) (fun hb => ?_) (fun hb => ?_)
    · let E9 : Env := ((39, .int .u8 (orI .u8 (andI .u8 (fwrap .u8 y9_0) 63) 128)) :: (38, .int .u8 (andI .u8 (fwrap .u8 y9_0) 63)) :: (37, .int .u8 (fwrap .u8 y9_0)) :: (36, .int .i64 y9_0) :: (35, .int .i64 y9_1) :: (34, .own 0 (y9_2).length 1) :: (31, .bool true) :: E8)
      refine ok_run 12 (p' := (atN 6 (ctl1 g19p18))) (env' := E9) (H' := (mkH [⟨(y9_2).flatMap e5, (y9_2).length * 1, false⟩])) (by kernel_rfl) ?_
      refine ok_chk (fun (x4_6 : Nat) => (.ptr 0 ((y9_2).length * 1) (x4_6 * 1), (mkH [⟨(y9_2).flatMap e5, (y9_2).length * 1, false⟩]))) (atN 7 (ctl1 g19p18)) (fun x4_6 => ((40, .ptr 0 ((y9_2).length * 1) (x4_6 * 1)) :: E9)) (oidxH (sz := 1) (by kernel_rfl)) (fun _ => by kernel_rfl) (fun x4_6 hx4_6 => ?_)
      refine ok_chk (fun (x4_7 : (List Int)) => (.top, (mkH [⟨(x4_7).flatMap e5, (x4_7).length * 1, false⟩]))) (atN 8 (ctl1 g19p18)) (fun x4_7 => ((40, .ptr 0 ((y9_2).length * 1) (x4_6 * 1)) :: E9)) (storeH (v := v5) (fun _ => rfl) (fun _ => rfl) [⟨(y9_2).flatMap e5, (y9_2).length * 1, false⟩] 0 (orI .u8 (andI .u8 (fwrap .u8 y9_0) 63) 128) rfl rfl (by kernel_rfl)) (fun _ => by kernel_rfl) (fun x4_7 hx4_7 => ?_)
      refine ok_env (env' := [(40, .ptr 0 ((y9_2).length * 1) (x4_6 * 1)), (39, .int .u8 (orI .u8 (andI .u8 (fwrap .u8 y9_0) 63) 128)), (38, .int .u8 (andI .u8 (fwrap .u8 y9_0) 63)), (37, .int .u8 (fwrap .u8 y9_0)), (36, .int .i64 y9_0), (35, .int .i64 y9_1), (34, .own 0 (x4_7).length 1), (31, .bool true), (31, .bool (decide (0 < y9_1))), (30, .int .i64 y9_1), (0, .int .i64 y9_0), (3, .int .i64 z8.1), (4, .own 0 (x4_7).length 1), (5, .int .i64 y9_1)]) (by rw [setO_len hx4_7]) ?_
      let E10 : Env := [(40, .ptr 0 ((y9_2).length * 1) (x4_6 * 1)), (39, .int .u8 (orI .u8 (andI .u8 (fwrap .u8 y9_0) 63) 128)), (38, .int .u8 (andI .u8 (fwrap .u8 y9_0) 63)), (37, .int .u8 (fwrap .u8 y9_0)), (36, .int .i64 y9_0), (35, .int .i64 y9_1), (34, .own 0 (x4_7).length 1), (31, .bool true), (31, .bool (decide (0 < y9_1))), (30, .int .i64 y9_1), (0, .int .i64 y9_0), (3, .int .i64 z8.1), (4, .own 0 (x4_7).length 1), (5, .int .i64 y9_1)]
      refine ok_run 1 (p' := g19p20) (env' := E10) (H' := (mkH [⟨(x4_7).flatMap e5, (x4_7).length * 1, false⟩])) (by kernel_rfl) ?_
      refine ok_keep [0, 3, 4, 5] (env' := [(0, .int .i64 y9_0), (3, .int .i64 z8.1), (4, .own 0 (x4_7).length 1), (5, .int .i64 y9_1)]) (by kernel_rfl) ?_
      let E11 : Env := [(5, .int .i64 (fwrap .i64 (y9_1 - 1))), (33, .int .i64 (fwrap .i64 (y9_1 - 1))), (32, .int .i64 y9_1), (0, .int .i64 (shrC y9_0 6)), (42, .int .i64 (shrC y9_0 6)), (41, .int .i64 y9_0), (0, .int .i64 y9_0), (3, .int .i64 z8.1), (4, .own 0 (x4_7).length 1), (5, .int .i64 y9_1)]
      refine ok_run 10 (p' := g19p15) (env' := E11) (H' := (mkH [⟨(x4_7).flatMap e5, (x4_7).length * 1, false⟩])) (by kernel_rfl) ?_
      refine ok_keep [0, 3, 4, 5] (env' := [(0, .int .i64 (shrC y9_0 6)), (3, .int .i64 z8.1), (4, .own 0 (x4_7).length 1), (5, .int .i64 (fwrap .i64 (y9_1 - 1)))]) (by kernel_rfl) ?_
      exact ih (shrC y9_0 6) (fwrap .i64 (y9_1 - 1)) x4_7
    · let E12 : Env := ((47, .int .i64 (fwrap .i64 (8 - z8.1))) :: (46, .int .i64 z8.1) :: (45, .int .u8 (fwrap .u8 y9_0)) :: (44, .int .i64 y9_0) :: (43, .own 0 (y9_2).length 1) :: (31, .bool false) :: E8)
      refine ok_run 9 (p' := (atN 5 (ctl1 g19p19))) (env' := E12) (H' := (mkH [⟨(y9_2).flatMap e5, (y9_2).length * 1, false⟩])) (by kernel_rfl) ?_
      refine ok_chk (fun (x5_5 : Int) => (.int .u8 x5_5, (mkH [⟨(y9_2).flatMap e5, (y9_2).length * 1, false⟩]))) (atN 6 (ctl1 g19p19)) (fun x5_5 => ((48, .int .u8 x5_5) :: E12)) (shlH (by kernel_rfl)) (fun _ => by kernel_rfl) (fun x5_5 hx5_5 => ?_)
      refine ok_run 1 (p' := (atN 7 (ctl1 g19p19))) (env' := ((49, .int .u8 (orI .u8 (fwrap .u8 y9_0) x5_5)) :: (48, .int .u8 x5_5) :: E12)) (H' := (mkH [⟨(y9_2).flatMap e5, (y9_2).length * 1, false⟩])) (by kernel_rfl) ?_
      refine ok_chk (fun (x5_7 : Nat) => (.ptr 0 ((y9_2).length * 1) (x5_7 * 1), (mkH [⟨(y9_2).flatMap e5, (y9_2).length * 1, false⟩]))) (atN 8 (ctl1 g19p19)) (fun x5_7 => ((50, .ptr 0 ((y9_2).length * 1) (x5_7 * 1)) :: (49, .int .u8 (orI .u8 (fwrap .u8 y9_0) x5_5)) :: (48, .int .u8 x5_5) :: E12)) (oidxH (sz := 1) (by kernel_rfl)) (fun _ => by kernel_rfl) (fun x5_7 hx5_7 => ?_)
      refine ok_chk (fun (x5_8 : (List Int)) => (.top, (mkH [⟨(x5_8).flatMap e5, (x5_8).length * 1, false⟩]))) (atN 9 (ctl1 g19p19)) (fun x5_8 => ((50, .ptr 0 ((y9_2).length * 1) (x5_7 * 1)) :: (49, .int .u8 (orI .u8 (fwrap .u8 y9_0) x5_5)) :: (48, .int .u8 x5_5) :: E12)) (storeH (v := v5) (fun _ => rfl) (fun _ => rfl) [⟨(y9_2).flatMap e5, (y9_2).length * 1, false⟩] 0 (orI .u8 (fwrap .u8 y9_0) x5_5) rfl rfl (by kernel_rfl)) (fun _ => by kernel_rfl) (fun x5_8 hx5_8 => ?_)
      refine ok_env (env' := [(50, .ptr 0 ((y9_2).length * 1) (x5_7 * 1)), (49, .int .u8 (orI .u8 (fwrap .u8 y9_0) x5_5)), (48, .int .u8 x5_5), (47, .int .i64 (fwrap .i64 (8 - z8.1))), (46, .int .i64 z8.1), (45, .int .u8 (fwrap .u8 y9_0)), (44, .int .i64 y9_0), (43, .own 0 (x5_8).length 1), (31, .bool false), (31, .bool (decide (0 < y9_1))), (30, .int .i64 y9_1), (0, .int .i64 y9_0), (3, .int .i64 z8.1), (4, .own 0 (x5_8).length 1), (5, .int .i64 y9_1)]) (by rw [setO_len hx5_8]) ?_
      let E13 : Env := [(50, .ptr 0 ((y9_2).length * 1) (x5_7 * 1)), (49, .int .u8 (orI .u8 (fwrap .u8 y9_0) x5_5)), (48, .int .u8 x5_5), (47, .int .i64 (fwrap .i64 (8 - z8.1))), (46, .int .i64 z8.1), (45, .int .u8 (fwrap .u8 y9_0)), (44, .int .i64 y9_0), (43, .own 0 (x5_8).length 1), (31, .bool false), (31, .bool (decide (0 < y9_1))), (30, .int .i64 y9_1), (0, .int .i64 y9_0), (3, .int .i64 z8.1), (4, .own 0 (x5_8).length 1), (5, .int .i64 y9_1)]
      refine ok_run 2 (p' := g19p21) (env' := E13) (H' := (mkH [⟨(x5_8).flatMap e5, (x5_8).length * 1, false⟩])) (by kernel_rfl) ?_
      refine ok_keep [4] (env' := [(4, .own 0 (x5_8).length 1)]) (by kernel_rfl) ?_
      refine ok_run 2 (p' := (atN 1 (ctl1 g19p21))) (env' := [(51, .own 0 (x5_8).length 1), (4, .own 0 (x5_8).length 1)]) (H' := (mkH [⟨(x5_8).flatMap e5, (x5_8).length * 1, false⟩])) (by kernel_rfl) ?_
      refine ok_chk (fun (x6_1 : (List Nat)) => (.str x6_1, (mkH [⟨(x5_8).flatMap e5, (x5_8).length * 1, false⟩]))) (atN 2 (ctl1 g19p21)) (fun x6_1 => [(52, .str x6_1), (51, .own 0 (x5_8).length 1), (4, .own 0 (x5_8).length 1)]) (toSO (fun _ => rfl) [⟨(x5_8).flatMap e5, (x5_8).length * 1, false⟩] 0 (x5_8.length * 1) rfl rfl (Nat.le_refl _) (by kernel_rfl)) (fun _ => by kernel_rfl) (fun x6_1 hx6_1 => ?_)
      refine ok_run 3 (p' := .fin) (env' := [(2, .str x6_1), (52, .str x6_1), (51, .own 0 (x5_8).length 1), (4, .own 0 (x5_8).length 1)]) (H' := (mkH [⟨(x5_8).flatMap e5, (x5_8).length * 1, false⟩])) (by kernel_rfl) ?_
      exact ok_ret (r := x6_1) (xs := [.str x6_1]) (v := .str x6_1) (by kernel_rfl) (by kernel_rfl) (by kernel_rfl) (.pures (by kernel_rfl)) (by kernel_rfl)
noncomputable def g19_l7 (k : Nat)  (a0 : Int) (n : Nat) : Int → Option (List Nat) :=
  Nat.rec (motive := fun _ => Int → Option (List Nat)) (fun _ => none) (fun _ ih => fun (y7_0 : Int) => jn (fun (z8 : Int × Bool) => if z8.2 then (ih (fwrap .i64 (z8.1 + 1))) else (if (decide (z8.1 = 1)) then ((toS ([fwrap .u8 a0] : List Int)).bind fun x2_3 => some x2_3) else ((mkS (0 : Int) 1 z8.1).bind fun x3_1 => g19_l9 k z8 k a0 (fwrap .i64 (z8.1 - 1)) x3_1))) (fun j8 => if (decide (y7_0 < 4)) then ((g32 k (fwrap .i64 (y7_0 + 1))).bind fun x1_6 => j8 (y7_0, decide (x1_6 ≤ a0))) else (j8 (y7_0, false)))) n
theorem g19_l7_s (k : Nat)  (a0 : Int) (n : Nat) (y7_0 : Int) : g19_l7 k a0 (n + 1) y7_0 = (jn (fun (z8 : Int × Bool) => if z8.2 then ((g19_l7 k a0 n) (fwrap .i64 (z8.1 + 1))) else (if (decide (z8.1 = 1)) then ((toS ([fwrap .u8 a0] : List Int)).bind fun x2_3 => some x2_3) else ((mkS (0 : Int) 1 z8.1).bind fun x3_1 => g19_l9 k z8 k a0 (fwrap .i64 (z8.1 - 1)) x3_1))) (fun j8 => if (decide (y7_0 < 4)) then ((g32 k (fwrap .i64 (y7_0 + 1))).bind fun x1_6 => j8 (y7_0, decide (x1_6 ≤ a0))) else (j8 (y7_0, false)))) := rfl
theorem g19_l7_ok (k : Nat)  (a0 : Int)  : ∀ (n : Nat) (y7_0 : Int), Ok X19 g19p6 [(0, .int .i64 a0), (3, .int .i64 y7_0)] (mkH []) (g19_l7 k a0 n y7_0)
  | 0, _ => ok_none
  | n + 1, y7_0 => by
    have ih := g19_l7_ok k a0 n
    rw [g19_l7_s]
    refine ok_ent (p' := nav [0] g19p6) (by kernel_rfl) ?_
    let E2 : Env := [(11, .bool (decide (y7_0 < 4))), (10, .bool (decide (y7_0 < 4))), (9, .int .i64 y7_0), (0, .int .i64 a0), (3, .int .i64 y7_0)]
    refine ok_run 6 (p' := (atN 3 (ctl1 g19p7))) (env' := E2) (H' := (mkH [])) (by kernel_rfl) ?_
    refine ok_jn (f := fun (z8 : Int × Bool) => if z8.2 then ((g19_l7 k a0 n) (fwrap .i64 (z8.1 + 1))) else (if (decide (z8.1 = 1)) then ((toS ([fwrap .u8 a0] : List Int)).bind fun x2_3 => some x2_3) else ((mkS (0 : Int) 1 z8.1).bind fun x3_1 => g19_l9 k z8 k a0 (fwrap .i64 (z8.1 - 1)) x3_1))) g19p8 (fun (z8 : Int × Bool) => [(0, .int .i64 a0), (3, .int .i64 z8.1), (17, .bool z8.2)]) (fun (z8 : Int × Bool) => (mkH [])) (fun z8 => ?_) (fun j8 hj8 => ?_)
    · refine ok_split 17 (b := z8.2) (by kernel_rfl) (fun hb => ?_) (fun hb => ?_)
      · let E3 : Env := [(3, .int .i64 (fwrap .i64 (z8.1 + 1))), (19, .int .i64 (fwrap .i64 (z8.1 + 1))), (18, .int .i64 z8.1), (17, .bool true), (0, .int .i64 a0), (3, .int .i64 z8.1), (17, .bool z8.2)]
        refine ok_run 8 (p' := g19p6) (env' := E3) (H' := (mkH [])) (by kernel_rfl) ?_
        refine ok_keep [0, 3] (env' := [(0, .int .i64 a0), (3, .int .i64 (fwrap .i64 (z8.1 + 1)))]) (by kernel_rfl) ?_
        exact ih (fwrap .i64 (z8.1 + 1))
      · let E4 : Env := [(21, .bool (decide (z8.1 = 1))), (20, .int .i64 z8.1), (17, .bool false), (0, .int .i64 a0), (3, .int .i64 z8.1), (17, .bool z8.2)]
        refine ok_run 8 (p' := g19p11) (env' := E4) (H' := (mkH [])) (by kernel_rfl) ?_
        refine ok_split 21 (b := decide (z8.1 = 1)) (by kernel_rfl) (fun hb => ?_) (fun hb => ?_)
        · refine ok_run 6 (p' := (atN 3 (ctl1 g19p12))) (env' := ((24, .slice 0 1 0 1 1) :: (23, .int .u8 (fwrap .u8 a0)) :: (22, .int .i64 a0) :: (21, .bool true) :: E4)) (H' := (mkH [⟨[.int .u8 (fwrap .u8 a0)], 0, false⟩])) (by kernel_rfl) ?_
          refine ok_chk (fun (x2_3 : (List Nat)) => (.str x2_3, (mkH [⟨[.int .u8 (fwrap .u8 a0)], 0, false⟩]))) (atN 4 (ctl1 g19p12)) (fun x2_3 => ((25, .str x2_3) :: (24, .slice 0 1 0 1 1) :: (23, .int .u8 (fwrap .u8 a0)) :: (22, .int .i64 a0) :: (21, .bool true) :: E4)) (toSE [fwrap .u8 a0] (by kernel_rfl)) (fun _ => by kernel_rfl) (fun x2_3 hx2_3 => ?_)
          let E5 : Env := ((2, .str x2_3) :: (25, .str x2_3) :: (24, .slice 0 1 0 1 1) :: (23, .int .u8 (fwrap .u8 a0)) :: (22, .int .i64 a0) :: (21, .bool true) :: E4)
          refine ok_run 3 (p' := .fin) (env' := E5) (H' := (mkH [⟨[.int .u8 (fwrap .u8 a0)], 0, false⟩])) (by kernel_rfl) ?_
          exact ok_ret (r := x2_3) (xs := [.str x2_3]) (v := .str x2_3) (by kernel_rfl) (by kernel_rfl) (by kernel_rfl) (.pures (by kernel_rfl)) (by kernel_rfl)
        · refine ok_run 5 (p' := (atN 1 (ctl1 g19p13))) (env' := ((26, .int .i64 z8.1) :: (21, .bool false) :: E4)) (H' := (mkH [])) (by kernel_rfl) ?_
          refine ok_chk (fun (x3_1 : (List Int)) => (.slice 0 ((x3_1).flatMap e5).length 0 (x3_1).length 1, (mkH [⟨(x3_1).flatMap e5, 0, false⟩]))) (atN 2 (ctl1 g19p13)) (fun x3_1 => ((27, .slice 0 ((x3_1).flatMap e5).length 0 (x3_1).length 1) :: (26, .int .i64 z8.1) :: (21, .bool false) :: E4)) (makeH (sz := 1) e5_len rfl (0 : Int) [] 1 rfl (by kernel_rfl)) (fun _ => by kernel_rfl) (fun x3_1 hx3_1 => ?_)
          refine ok_sown 27 0 ((x3_1).flatMap e5).length (x3_1).length 1 (by kernel_rfl) (flatMap_len e5_len _) ?_
          refine ok_env (env' := [(27, .own 0 (x3_1).length 1), (27, .slice 0 ((x3_1).flatMap e5).length 0 (x3_1).length 1), (26, .int .i64 z8.1), (21, .bool false), (21, .bool (decide (z8.1 = 1))), (20, .int .i64 z8.1), (17, .bool false), (0, .int .i64 a0), (3, .int .i64 z8.1), (17, .bool z8.2)]) (by kernel_rfl) ?_
          refine ok_minv [⟨(x3_1).flatMap e5, 0, false⟩] 0 ((x3_1).flatMap e5) 0 ((x3_1).length * 1) rfl rfl (Nat.zero_le _) ?_
          refine ok_heap (H' := (mkH [⟨(x3_1).flatMap e5, (x3_1).length * 1, false⟩])) (by kernel_rfl) ?_
          let E6 : Env := ((4, .own 0 (x3_1).length 1) :: (27, .own 0 (x3_1).length 1) :: (27, .slice 0 ((x3_1).flatMap e5).length 0 (x3_1).length 1) :: (26, .int .i64 z8.1) :: (21, .bool false) :: E4)
          refine ok_run 4 (p' := g19p14) (env' := E6) (H' := (mkH [⟨(x3_1).flatMap e5, (x3_1).length * 1, false⟩])) (by kernel_rfl) ?_
          refine ok_keep [0, 3, 4] (env' := [(0, .int .i64 a0), (3, .int .i64 z8.1), (4, .own 0 (x3_1).length 1)]) (by kernel_rfl) ?_
          let E7 : Env := [(5, .int .i64 (fwrap .i64 (z8.1 - 1))), (29, .int .i64 (fwrap .i64 (z8.1 - 1))), (28, .int .i64 z8.1), (0, .int .i64 a0), (3, .int .i64 z8.1), (4, .own 0 (x3_1).length 1)]
          refine ok_run 7 (p' := g19p15) (env' := E7) (H' := (mkH [⟨(x3_1).flatMap e5, (x3_1).length * 1, false⟩])) (by kernel_rfl) ?_
          refine ok_keep [0, 3, 4, 5] (env' := [(0, .int .i64 a0), (3, .int .i64 z8.1), (4, .own 0 (x3_1).length 1), (5, .int .i64 (fwrap .i64 (z8.1 - 1)))]) (by kernel_rfl) ?_
          exact (g19_l9_ok k z8 k) a0 (fwrap .i64 (z8.1 - 1)) x3_1
    · refine ok_split 11 (b := decide (y7_0 < 4)) (by kernel_rfl) (fun hb => ?_) (fun hb => ?_)
      · refine ok_run 3 (p' := (atN 6 (ctl1 g19p7))) (env' := ((14, .int .i64 (fwrap .i64 (y7_0 + 1))) :: (13, .int .i64 y7_0) :: (12, .int .i64 a0) :: (11, .bool true) :: E2)) (H' := (mkH [])) (by kernel_rfl) ?_
        refine ok_call (fun (x1_6 : Int) => .int .i64 x1_6) (atN 7 (ctl1 g19p7)) (fun x1_6 => ((15, .int .i64 x1_6) :: (14, .int .i64 (fwrap .i64 (y7_0 + 1))) :: (13, .int .i64 y7_0) :: (12, .int .i64 a0) :: (11, .bool true) :: E2)) (fi := 32) (args := [.int .i64 (fwrap .i64 (y7_0 + 1))]) (by kernel_rfl) (by kernel_rfl) (fun _ => by kernel_rfl) (fun r h => g32_ok k (fwrap .i64 (y7_0 + 1)) r h) (fun _ => by kernel_rfl) (fun x1_6 hx1_6 => ?_)
        let E14 : Env := ((17, .bool (decide (x1_6 ≤ a0))) :: (16, .bool (decide (x1_6 ≤ a0))) :: (15, .int .i64 x1_6) :: (14, .int .i64 (fwrap .i64 (y7_0 + 1))) :: (13, .int .i64 y7_0) :: (12, .int .i64 a0) :: (11, .bool true) :: E2)
        refine ok_run 3 (p' := g19p8) (env' := E14) (H' := (mkH [])) (by kernel_rfl) ?_
        refine ok_keep [0, 3, 17] (env' := [(0, .int .i64 a0), (3, .int .i64 y7_0), (17, .bool (decide (x1_6 ≤ a0)))]) (by kernel_rfl) ?_
        exact hj8 (y7_0, decide (x1_6 ≤ a0))
      · let E15 : Env := ((17, .bool false) :: (16, .tuple []) :: (15, .tuple []) :: (14, .tuple []) :: (13, .tuple []) :: (12, .tuple []) :: (11, .bool false) :: E2)
        refine ok_run 7 (p' := g19p8) (env' := E15) (H' := (mkH [])) (by kernel_rfl) ?_
        refine ok_keep [0, 3, 17] (env' := [(0, .int .i64 a0), (3, .int .i64 y7_0), (17, .bool false)]) (by kernel_rfl) ?_
        exact hj8 (y7_0, false)
noncomputable def g19 (k : Nat) (a0 : Int) : Option (List Nat) :=
  (g33 k a0).bind fun x0_1 => if (!x0_1) then (some ([] : List Nat)) else (g19_l7 k a0 k 1)
theorem g19_ok (k : Nat) (a0 : Int) (r : (List Nat)) (h : g19 k a0 = some r) : PureOk Try.prog 19 [.int .i64 a0] (.str r) := by
  refine pure_of X19 (fun _ => rfl) Try.func19 (by decide +kernel) (by kernel_rfl) (t := g19 k a0) ?_ h
  unfold g19
  refine ok_env (env' := [(0, .int .i64 a0)]) (by kernel_rfl) ?_
  refine ok_run 8 (p' := (atN 1 (ctl1 g19p1))) (env' := [(6, .int .i64 a0), (2, .str []), (0, .int .i64 a0)]) (H' := (mkH [])) (by kernel_rfl) ?_
  refine ok_call (fun (x0_1 : Bool) => .bool x0_1) (atN 2 (ctl1 g19p1)) (fun x0_1 => [(7, .bool x0_1), (6, .int .i64 a0), (2, .str []), (0, .int .i64 a0)]) (fi := 33) (args := [.int .i64 a0]) (by kernel_rfl) (by kernel_rfl) (fun _ => by kernel_rfl) (fun r h => g33_ok k a0 r h) (fun _ => by kernel_rfl) (fun x0_1 hx0_1 => ?_)
  let E1 : Env := [(8, .bool (!x0_1)), (7, .bool x0_1), (6, .int .i64 a0), (2, .str []), (0, .int .i64 a0)]
  refine ok_run 2 (p' := g19p2) (env' := E1) (H' := (mkH [])) (by kernel_rfl) ?_
  refine ok_split 8 (b := !x0_1) (by kernel_rfl) (fun hb => ?_) (fun hb => ?_)
  · refine ok_run 6 (p' := .fin) (env' := ((2, .str []) :: (8, .bool true) :: E1)) (H' := (mkH [])) (by kernel_rfl) ?_
    exact ok_ret (r := ([] : List Nat)) (xs := [.str []]) (v := .str []) (by kernel_rfl) (by kernel_rfl) (by kernel_rfl) (.pures (by kernel_rfl)) (by kernel_rfl)
  · refine ok_run 9 (p' := g19p6) (env' := ((3, .int .i64 1) :: (8, .bool false) :: E1)) (H' := (mkH [])) (by kernel_rfl) ?_
    refine ok_keep [0, 3] (env' := [(0, .int .i64 a0), (3, .int .i64 1)]) (by kernel_rfl) ?_
    exact (g19_l7_ok k a0 k) 1
end Go.Proofs.Ytfkefelgjbfkjaa.Am
