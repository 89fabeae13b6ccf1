/- Function 20, plain, and that the program computes it. Printed by gen.py. -/
import Derived.Test.YtfkefelgjbfkjaaTy
import Derived.Test.YtfkefelgjbfkjaaG34
set_option maxRecDepth 100000
set_option linter.unusedVariables false
namespace Go.Proofs.Ytfkefelgjbfkjaa.Am
open Go

/-! 20 galley/galleyref1.Put -/
noncomputable def X20 : Fx (List Nat) := ⟨Try.prog, cx, Try.f20, fun r => .str r, 0, fun _ => H0, cxTi, cxOrd⟩
noncomputable def g20p0 : Pt := nav [0] (bodyAt Try.f20)
noncomputable def g20p1 : Pt := nav [0, 0, 0, 0, 0] g20p0
noncomputable def g20p2 : Pt := nav [0, 0] g20p1
noncomputable def g20p3 : Pt := nav [1, 0] g20p2
noncomputable def g20p4 : Pt := nav [2, 0] g20p2
noncomputable def g20p6 : Pt := nav [0, 0] g20p4
noncomputable def g20p7 : Pt := nav [1, 0] g20p6
noncomputable def g20p8 : Pt := nav [2, 0] g20p6
noncomputable def g20p9 : Pt := nav [0, 0] g20p8
noncomputable def g20p10 : Pt := nav [1, 0] g20p9
noncomputable def g20p11 : Pt := nav [2, 0] g20p9
noncomputable def g20p12 : Pt := nav [0, 0] g20p11
noncomputable def g20p13 : Pt := nav [1, 0] g20p12
noncomputable def g20p14 : Pt := nav [2, 0, 0] g20p12
noncomputable def g20 (k : Nat) (a0 : Int) : Option (List Nat) :=
  (g34 k a0).bind fun x0_1 => if (!x0_1) then (some ([] : List Nat)) else (if (decide (a0 < 128)) then ((toS ([fwrap .u8 a0] : List Int)).bind fun x1_3 => some x1_3) else (if (decide (a0 < 2048)) then ((toS ([orI .u8 192 (fwrap .u8 (shrC a0 6)), orI .u8 128 (fwrap .u8 (andI .i64 a0 63))] : List Int)).bind fun x2_9 => some x2_9) else (if (decide (a0 < 65536)) then ((toS ([orI .u8 224 (fwrap .u8 (shrC a0 12)), orI .u8 128 (fwrap .u8 (andI .i64 (shrC a0 6) 63)), orI .u8 128 (fwrap .u8 (andI .i64 a0 63))] : List Int)).bind fun x3_14 => some x3_14) else ((toS ([orI .u8 240 (fwrap .u8 (shrC a0 18)), orI .u8 128 (fwrap .u8 (andI .i64 (shrC a0 12) 63)), orI .u8 128 (fwrap .u8 (andI .i64 (shrC a0 6) 63)), orI .u8 128 (fwrap .u8 (andI .i64 a0 63))] : List Int)).bind fun x4_19 => some x4_19))))
theorem g20_ok (k : Nat) (a0 : Int) (r : (List Nat)) (h : g20 k a0 = some r) : PureOk Try.prog 20 [.int .i64 a0] (.str r) := by
  refine pure_of X20 (fun _ => rfl) Try.func20 (by decide +kernel) (by kernel_rfl) (t := g20 k a0) ?_ h
  unfold g20
  refine ok_env (env' := [(0, .int .i64 a0)]) (by kernel_rfl) ?_
  refine ok_run 9 (p' := (atN 1 (ctl1 g20p1))) (env' := [(4, .int .i64 a0), (2, .str []), (0, .int .i64 a0)]) (H' := (mkH [])) (by kernel_rfl) ?_
  refine ok_call (fun (x0_1 : Bool) => .bool x0_1) (atN 2 (ctl1 g20p1)) (fun x0_1 => [(5, .bool x0_1), (4, .int .i64 a0), (2, .str []), (0, .int .i64 a0)]) (fi := 34) (args := [.int .i64 a0]) (by kernel_rfl) (by kernel_rfl) (fun _ => by kernel_rfl) (fun r h => g34_ok k a0 r h) (fun _ => by kernel_rfl) (fun x0_1 hx0_1 => ?_)
  let E1 : Env := [(3, .bool (!x0_1)), (6, .bool (!x0_1)), (5, .bool x0_1), (4, .int .i64 a0), (2, .str []), (0, .int .i64 a0)]
  refine ok_run 3 (p' := g20p2) (env' := E1) (H' := (mkH [])) (by kernel_rfl) ?_
  refine ok_split 3 (b := !x0_1) (by kernel_rfl) (fun hb => ?_) (fun hb => ?_)
  · refine ok_run 6 (p' := .fin) (env' := ((2, .str []) :: (3, .bool true) :: E1)) (H' := (mkH [])) (by kernel_rfl) ?_
    exact ok_ret (r := ([] : List Nat)) (xs := [.str []]) (v := .str []) (by kernel_rfl) (by kernel_rfl) (by kernel_rfl) (.pures (by kernel_rfl)) (by kernel_rfl)
  · refine ok_run 7 (p' := g20p6) (env' := ((7, .bool (decide (a0 < 128))) :: (9, .bool (decide (a0 < 128))) :: (8, .int .i64 a0) :: (3, .bool false) :: E1)) (H' := (mkH [])) (by kernel_rfl) ?_
    refine ok_keep [0, 7] (env' := [(0, .int .i64 a0), (7, .bool (decide (a0 < 128)))]) (by kernel_rfl) ?_
    refine ok_split 7 (b := decide (a0 < 128)) (by kernel_rfl) (fun hb => ?_) (fun hb => ?_)
    · let E2 : Env := [(12, .slice 0 1 0 1 1), (11, .int .u8 (fwrap .u8 a0)), (10, .int .i64 a0), (7, .bool true), (0, .int .i64 a0), (7, .bool (decide (a0 < 128)))]
      refine ok_run 6 (p' := (atN 3 (ctl1 g20p7))) (env' := E2) (H' := (mkH [⟨[.int .u8 (fwrap .u8 a0)], 0, false⟩])) (by kernel_rfl) ?_
      refine ok_chk (fun (x1_3 : (List Nat)) => (.str x1_3, (mkH [⟨[.int .u8 (fwrap .u8 a0)], 0, false⟩]))) (atN 4 (ctl1 g20p7)) (fun x1_3 => ((13, .str x1_3) :: E2)) (toSE [fwrap .u8 a0] (by kernel_rfl)) (fun _ => by kernel_rfl) (fun x1_3 hx1_3 => ?_)
      refine ok_run 3 (p' := .fin) (env' := ((2, .str x1_3) :: (13, .str x1_3) :: E2)) (H' := (mkH [⟨[.int .u8 (fwrap .u8 a0)], 0, false⟩])) (by kernel_rfl) ?_
      exact ok_ret (r := x1_3) (xs := [.str x1_3]) (v := .str x1_3) (by kernel_rfl) (by kernel_rfl) (by kernel_rfl) (.pures (by kernel_rfl)) (by kernel_rfl)
    · let E3 : Env := [(14, .bool (decide (a0 < 2048))), (16, .bool (decide (a0 < 2048))), (15, .int .i64 a0), (7, .bool false), (0, .int .i64 a0), (7, .bool (decide (a0 < 128)))]
      refine ok_run 7 (p' := g20p9) (env' := E3) (H' := (mkH [])) (by kernel_rfl) ?_
      refine ok_split 14 (b := decide (a0 < 2048)) (by kernel_rfl) (fun hb => ?_) (fun hb => ?_)
      · let E4 : Env := ((25, .slice 0 2 0 2 1) :: (24, .int .u8 (orI .u8 128 (fwrap .u8 (andI .i64 a0 63)))) :: (23, .int .u8 (fwrap .u8 (andI .i64 a0 63))) :: (22, .int .i64 (andI .i64 a0 63)) :: (21, .int .i64 a0) :: (20, .int .u8 (orI .u8 192 (fwrap .u8 (shrC a0 6)))) :: (19, .int .u8 (fwrap .u8 (shrC a0 6))) :: (18, .int .i64 (shrC a0 6)) :: (17, .int .i64 a0) :: (14, .bool true) :: E3)
        refine ok_run 12 (p' := (atN 9 (ctl1 g20p10))) (env' := E4) (H' := (mkH [⟨[.int .u8 (orI .u8 192 (fwrap .u8 (shrC a0 6))), .int .u8 (orI .u8 128 (fwrap .u8 (andI .i64 a0 63)))], 0, false⟩])) (by kernel_rfl) ?_
        refine ok_chk (fun (x2_9 : (List Nat)) => (.str x2_9, (mkH [⟨[.int .u8 (orI .u8 192 (fwrap .u8 (shrC a0 6))), .int .u8 (orI .u8 128 (fwrap .u8 (andI .i64 a0 63)))], 0, false⟩]))) (atN 10 (ctl1 g20p10)) (fun x2_9 => ((26, .str x2_9) :: E4)) (toSE [orI .u8 192 (fwrap .u8 (shrC a0 6)), orI .u8 128 (fwrap .u8 (andI .i64 a0 63))] (by kernel_rfl)) (fun _ => by kernel_rfl) (fun x2_9 hx2_9 => ?_)
        refine ok_run 3 (p' := .fin) (env' := ((2, .str x2_9) :: (26, .str x2_9) :: E4)) (H' := (mkH [⟨[.int .u8 (orI .u8 192 (fwrap .u8 (shrC a0 6))), .int .u8 (orI .u8 128 (fwrap .u8 (andI .i64 a0 63)))], 0, false⟩])) (by kernel_rfl) ?_
        exact ok_ret (r := x2_9) (xs := [.str x2_9]) (v := .str x2_9) (by kernel_rfl) (by kernel_rfl) (by kernel_rfl) (.pures (by kernel_rfl)) (by kernel_rfl)
      · refine ok_run 7 (p' := g20p12) (env' := ((27, .bool (decide (a0 < 65536))) :: (29, .bool (decide (a0 < 65536))) :: (28, .int .i64 a0) :: (14, .bool false) :: E3)) (H' := (mkH [])) (by kernel_rfl) ?_
        refine ok_keep [0, 27] (env' := [(0, .int .i64 a0), (27, .bool (decide (a0 < 65536)))]) (by kernel_rfl) ?_
        refine ok_split 27 (b := decide (a0 < 65536)) (by kernel_rfl) (fun hb => ?_) (fun hb => ?_)
        · let E5 : Env := [(43, .slice 0 3 0 3 1), (42, .int .u8 (orI .u8 128 (fwrap .u8 (andI .i64 a0 63)))), (41, .int .u8 (fwrap .u8 (andI .i64 a0 63))), (40, .int .i64 (andI .i64 a0 63)), (39, .int .i64 a0), (38, .int .u8 (orI .u8 128 (fwrap .u8 (andI .i64 (shrC a0 6) 63)))), (37, .int .u8 (fwrap .u8 (andI .i64 (shrC a0 6) 63))), (36, .int .i64 (andI .i64 (shrC a0 6) 63)), (35, .int .i64 (shrC a0 6)), (34, .int .i64 a0), (33, .int .u8 (orI .u8 224 (fwrap .u8 (shrC a0 12)))), (32, .int .u8 (fwrap .u8 (shrC a0 12))), (31, .int .i64 (shrC a0 12)), (30, .int .i64 a0), (27, .bool true), (0, .int .i64 a0), (27, .bool (decide (a0 < 65536)))]
          refine ok_run 17 (p' := (atN 14 (ctl1 g20p13))) (env' := E5) (H' := (mkH [⟨[.int .u8 (orI .u8 224 (fwrap .u8 (shrC a0 12))), .int .u8 (orI .u8 128 (fwrap .u8 (andI .i64 (shrC a0 6) 63))), .int .u8 (orI .u8 128 (fwrap .u8 (andI .i64 a0 63)))], 0, false⟩])) (by kernel_rfl) ?_
          refine ok_chk (fun (x3_14 : (List Nat)) => (.str x3_14, (mkH [⟨[.int .u8 (orI .u8 224 (fwrap .u8 (shrC a0 12))), .int .u8 (orI .u8 128 (fwrap .u8 (andI .i64 (shrC a0 6) 63))), .int .u8 (orI .u8 128 (fwrap .u8 (andI .i64 a0 63)))], 0, false⟩]))) (atN 15 (ctl1 g20p13)) (fun x3_14 => ((44, .str x3_14) :: E5)) (toSE [orI .u8 224 (fwrap .u8 (shrC a0 12)), orI .u8 128 (fwrap .u8 (andI .i64 (shrC a0 6) 63)), orI .u8 128 (fwrap .u8 (andI .i64 a0 63))] (by kernel_rfl)) (fun _ => by kernel_rfl) (fun x3_14 hx3_14 => ?_)
          refine ok_run 3 (p' := .fin) (env' := ((2, .str x3_14) :: (44, .str x3_14) :: E5)) (H' := (mkH [⟨[.int .u8 (orI .u8 224 (fwrap .u8 (shrC a0 12))), .int .u8 (orI .u8 128 (fwrap .u8 (andI .i64 (shrC a0 6) 63))), .int .u8 (orI .u8 128 (fwrap .u8 (andI .i64 a0 63)))], 0, false⟩])) (by kernel_rfl) ?_
          exact ok_ret (r := x3_14) (xs := [.str x3_14]) (v := .str x3_14) (by kernel_rfl) (by kernel_rfl) (by kernel_rfl) (.pures (by kernel_rfl)) (by kernel_rfl)
        · let E6 : Env := [(63, .slice 0 4 0 4 1), (62, .int .u8 (orI .u8 128 (fwrap .u8 (andI .i64 a0 63)))), (61, .int .u8 (fwrap .u8 (andI .i64 a0 63))), (60, .int .i64 (andI .i64 a0 63)), (59, .int .i64 a0), (58, .int .u8 (orI .u8 128 (fwrap .u8 (andI .i64 (shrC a0 6) 63)))), (57, .int .u8 (fwrap .u8 (andI .i64 (shrC a0 6) 63))), (56, .int .i64 (andI .i64 (shrC a0 6) 63)), (55, .int .i64 (shrC a0 6)), (54, .int .i64 a0), (53, .int .u8 (orI .u8 128 (fwrap .u8 (andI .i64 (shrC a0 12) 63)))), (52, .int .u8 (fwrap .u8 (andI .i64 (shrC a0 12) 63))), (51, .int .i64 (andI .i64 (shrC a0 12) 63)), (50, .int .i64 (shrC a0 12)), (49, .int .i64 a0), (48, .int .u8 (orI .u8 240 (fwrap .u8 (shrC a0 18)))), (47, .int .u8 (fwrap .u8 (shrC a0 18))), (46, .int .i64 (shrC a0 18)), (45, .int .i64 a0), (27, .bool false), (0, .int .i64 a0), (27, .bool (decide (a0 < 65536)))]
          refine ok_run 23 (p' := (atN 19 (ctl1 g20p14))) (env' := E6) (H' := (mkH [⟨[.int .u8 (orI .u8 240 (fwrap .u8 (shrC a0 18))), .int .u8 (orI .u8 128 (fwrap .u8 (andI .i64 (shrC a0 12) 63))), .int .u8 (orI .u8 128 (fwrap .u8 (andI .i64 (shrC a0 6) 63))), .int .u8 (orI .u8 128 (fwrap .u8 (andI .i64 a0 63)))], 0, false⟩])) (by kernel_rfl) ?_
          refine ok_chk (fun (x4_19 : (List Nat)) => (.str x4_19, (mkH [⟨[.int .u8 (orI .u8 240 (fwrap .u8 (shrC a0 18))), .int .u8 (orI .u8 128 (fwrap .u8 (andI .i64 (shrC a0 12) 63))), .int .u8 (orI .u8 128 (fwrap .u8 (andI .i64 (shrC a0 6) 63))), .int .u8 (orI .u8 128 (fwrap .u8 (andI .i64 a0 63)))], 0, false⟩]))) (atN 20 (ctl1 g20p14)) (fun x4_19 => ((64, .str x4_19) :: E6)) (toSE [orI .u8 240 (fwrap .u8 (shrC a0 18)), orI .u8 128 (fwrap .u8 (andI .i64 (shrC a0 12) 63)), orI .u8 128 (fwrap .u8 (andI .i64 (shrC a0 6) 63)), orI .u8 128 (fwrap .u8 (andI .i64 a0 63))] (by kernel_rfl)) (fun _ => by kernel_rfl) (fun x4_19 hx4_19 => ?_)
          refine ok_run 3 (p' := .fin) (env' := ((2, .str x4_19) :: (64, .str x4_19) :: E6)) (H' := (mkH [⟨[.int .u8 (orI .u8 240 (fwrap .u8 (shrC a0 18))), .int .u8 (orI .u8 128 (fwrap .u8 (andI .i64 (shrC a0 12) 63))), .int .u8 (orI .u8 128 (fwrap .u8 (andI .i64 (shrC a0 6) 63))), .int .u8 (orI .u8 128 (fwrap .u8 (andI .i64 a0 63)))], 0, false⟩])) (by kernel_rfl) ?_
          exact ok_ret (r := x4_19) (xs := [.str x4_19]) (v := .str x4_19) (by kernel_rfl) (by kernel_rfl) (by kernel_rfl) (.pures (by kernel_rfl)) (by kernel_rfl)
end Go.Proofs.Ytfkefelgjbfkjaa.Am
