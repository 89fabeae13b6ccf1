/- Function 63, plain, and that the program computes it. Printed by gen.py. -/
import Derived.Test.YtokcjgjgojlhbaaTy
set_option maxRecDepth 100000
set_option linter.unusedVariables false
namespace Go.Proofs.Ytokcjgjgojlhbaa.Am
open Go

/-! 63 galley/lit.digit -/
noncomputable def X63 : Fx Int := ⟨Try.prog, cx, Try.f63, fun r => .int .i64 r, 0, fun _ => H0, cxTi, cxOrd⟩
noncomputable def g63p0 : Pt := nav [0] (bodyAt Try.f63)
noncomputable def g63p1 : Pt := nav [0, 0, 0, 0, 0] g63p0
noncomputable def g63p2 : Pt := nav [0, 0] g63p1
noncomputable def g63p3 : Pt := nav [1, 0] g63p2
noncomputable def g63p4 : Pt := nav [2, 0] g63p2
noncomputable def g63p6 : Pt := nav [0, 0] g63p4
noncomputable def g63p7 : Pt := nav [1, 0] g63p6
noncomputable def g63p8 : Pt := nav [2, 0] g63p6
noncomputable def g63p9 : Pt := nav [0, 0] g63p8
noncomputable def g63p10 : Pt := nav [1, 0] g63p9
noncomputable def g63p11 : Pt := nav [2, 0, 0] g63p9
noncomputable def g63 (k : Nat) (a0 : Int) : Option Int :=
  jn (fun (z0 : Bool) => if z0 then (some (fwrap .i64 (fwrap .u8 (a0 - 48)))) else (jn (fun (z1 : Bool) => if z1 then (some (fwrap .i64 (fwrap .i64 (fwrap .u8 (a0 - 97)) + 10))) else (jn (fun (z2 : Bool) => if z2 then (some (fwrap .i64 (fwrap .i64 (fwrap .u8 (a0 - 65)) + 10))) else (some (99 : Int))) (fun j2 => if (decide (65 ≤ a0)) then (j2 (decide (a0 ≤ 90))) else (j2 false)))) (fun j1 => if (decide (97 ≤ a0)) then (j1 (decide (a0 ≤ 122))) else (j1 false)))) (fun j0 => if (decide (48 ≤ a0)) then (j0 (decide (a0 ≤ 57))) else (j0 false))
theorem g63_ok (k : Nat) (a0 : Int) (r : Int) (h : g63 k a0 = some r) : PureOk Try.prog 63 [.int .u8 a0] (.int .i64 r) := by
  refine pure_of X63 (fun _ => rfl) Try.func63 (by decide +kernel) (by kernel_rfl) (t := g63 k a0) ?_ h
  unfold g63
  refine ok_env (env' := [(0, .int .u8 a0)]) (by kernel_rfl) ?_
  let E1 : Env := [(6, .bool (decide (48 ≤ a0))), (5, .bool (decide (48 ≤ a0))), (4, .int .u8 a0), (2, .int .i64 0), (0, .int .u8 a0)]
  refine ok_run 11 (p' := (atN 3 (ctl1 g63p1))) (env' := E1) (H' := (mkH [])) (by kernel_rfl) ?_
  refine ok_jn (f := fun (z0 : Bool) => if z0 then (some (fwrap .i64 (fwrap .u8 (a0 - 48)))) else (jn (fun (z1 : Bool) => if z1 then (some (fwrap .i64 (fwrap .i64 (fwrap .u8 (a0 - 97)) + 10))) else (jn (fun (z2 : Bool) => if z2 then (some (fwrap .i64 (fwrap .i64 (fwrap .u8 (a0 - 65)) + 10))) else (some (99 : Int))) (fun j2 => if (decide (65 ≤ a0)) then (j2 (decide (a0 ≤ 90))) else (j2 false)))) (fun j1 => if (decide (97 ≤ a0)) then (j1 (decide (a0 ≤ 122))) else (j1 false)))) g63p2 (fun (z0 : Bool) => [(0, .int .u8 a0), (3, .bool z0)]) (fun (z0 : Bool) => (mkH [])) (fun z0 => ?_) (fun j0 hj0 => ?_)
  · refine ok_split 3 (b := z0) (by kernel_rfl) (fun hb => ?_) (fun hb => ?_)
    · let E2 : Env := [(2, .int .i64 (fwrap .i64 (fwrap .u8 (a0 - 48)))), (12, .int .i64 (fwrap .i64 (fwrap .u8 (a0 - 48)))), (11, .int .u8 (fwrap .u8 (a0 - 48))), (10, .int .u8 a0), (3, .bool true), (0, .int .u8 a0), (3, .bool z0)]
      refine ok_run 9 (p' := .fin) (env' := E2) (H' := (mkH [])) (by kernel_rfl) ?_
      exact ok_ret (r := (fwrap .i64 (fwrap .u8 (a0 - 48)))) (xs := [.int .i64 (fwrap .i64 (fwrap .u8 (a0 - 48)))]) (v := .int .i64 (fwrap .i64 (fwrap .u8 (a0 - 48)))) (by kernel_rfl) (by kernel_rfl) (by kernel_rfl) (.pures (by kernel_rfl)) (by kernel_rfl)
    · let E3 : Env := [(16, .bool (decide (97 ≤ a0))), (15, .bool (decide (97 ≤ a0))), (14, .int .u8 a0), (3, .bool false), (0, .int .u8 a0), (3, .bool z0)]
      refine ok_run 6 (p' := (atN 3 (ctl1 g63p4))) (env' := E3) (H' := (mkH [])) (by kernel_rfl) ?_
      refine ok_jn (f := fun (z1 : Bool) => if z1 then (some (fwrap .i64 (fwrap .i64 (fwrap .u8 (a0 - 97)) + 10))) else (jn (fun (z2 : Bool) => if z2 then (some (fwrap .i64 (fwrap .i64 (fwrap .u8 (a0 - 65)) + 10))) else (some (99 : Int))) (fun j2 => if (decide (65 ≤ a0)) then (j2 (decide (a0 ≤ 90))) else (j2 false)))) g63p6 (fun (z1 : Bool) => [(0, .int .u8 a0), (13, .bool z1)]) (fun (z1 : Bool) => (mkH [])) (fun z1 => ?_) (fun j1 hj1 => ?_)
      · refine ok_split 13 (b := z1) (by kernel_rfl) (fun hb => ?_) (fun hb => ?_)
        · let E4 : Env := [(2, .int .i64 (fwrap .i64 (fwrap .i64 (fwrap .u8 (a0 - 97)) + 10))), (23, .int .i64 (fwrap .i64 (fwrap .i64 (fwrap .u8 (a0 - 97)) + 10))), (22, .int .i64 (fwrap .i64 (fwrap .u8 (a0 - 97)))), (21, .int .u8 (fwrap .u8 (a0 - 97))), (20, .int .u8 a0), (13, .bool true), (0, .int .u8 a0), (13, .bool z1)]
          refine ok_run 10 (p' := .fin) (env' := E4) (H' := (mkH [])) (by kernel_rfl) ?_
          exact ok_ret (r := (fwrap .i64 (fwrap .i64 (fwrap .u8 (a0 - 97)) + 10))) (xs := [.int .i64 (fwrap .i64 (fwrap .i64 (fwrap .u8 (a0 - 97)) + 10))]) (v := .int .i64 (fwrap .i64 (fwrap .i64 (fwrap .u8 (a0 - 97)) + 10))) (by kernel_rfl) (by kernel_rfl) (by kernel_rfl) (.pures (by kernel_rfl)) (by kernel_rfl)
        · let E5 : Env := [(27, .bool (decide (65 ≤ a0))), (26, .bool (decide (65 ≤ a0))), (25, .int .u8 a0), (13, .bool false), (0, .int .u8 a0), (13, .bool z1)]
          refine ok_run 6 (p' := (atN 3 (ctl1 g63p8))) (env' := E5) (H' := (mkH [])) (by kernel_rfl) ?_
          refine ok_jn (f := fun (z2 : Bool) => if z2 then (some (fwrap .i64 (fwrap .i64 (fwrap .u8 (a0 - 65)) + 10))) else (some (99 : Int))) g63p9 (fun (z2 : Bool) => [(0, .int .u8 a0), (24, .bool z2)]) (fun (z2 : Bool) => (mkH [])) (fun z2 => ?_) (fun j2 hj2 => ?_)
          · refine ok_split 24 (b := z2) (by kernel_rfl) (fun hb => ?_) (fun hb => ?_)
            · let E6 : Env := [(2, .int .i64 (fwrap .i64 (fwrap .i64 (fwrap .u8 (a0 - 65)) + 10))), (34, .int .i64 (fwrap .i64 (fwrap .i64 (fwrap .u8 (a0 - 65)) + 10))), (33, .int .i64 (fwrap .i64 (fwrap .u8 (a0 - 65)))), (32, .int .u8 (fwrap .u8 (a0 - 65))), (31, .int .u8 a0), (24, .bool true), (0, .int .u8 a0), (24, .bool z2)]
              refine ok_run 10 (p' := .fin) (env' := E6) (H' := (mkH [])) (by kernel_rfl) ?_
              exact ok_ret (r := (fwrap .i64 (fwrap .i64 (fwrap .u8 (a0 - 65)) + 10))) (xs := [.int .i64 (fwrap .i64 (fwrap .i64 (fwrap .u8 (a0 - 65)) + 10))]) (v := .int .i64 (fwrap .i64 (fwrap .i64 (fwrap .u8 (a0 - 65)) + 10))) (by kernel_rfl) (by kernel_rfl) (by kernel_rfl) (.pures (by kernel_rfl)) (by kernel_rfl)
            · refine ok_run 7 (p' := .fin) (env' := [(2, .int .i64 99), (24, .bool false), (0, .int .u8 a0), (24, .bool z2)]) (H' := (mkH [])) (by kernel_rfl) ?_
              exact ok_ret (r := (99 : Int)) (xs := [.int .i64 99]) (v := .int .i64 99) (by kernel_rfl) (by kernel_rfl) (by kernel_rfl) (.pures (by kernel_rfl)) (by kernel_rfl)
          · refine ok_split 27 (b := decide (65 ≤ a0)) (by kernel_rfl) (fun hb => ?_) (fun hb => ?_)
            · let E7 : Env := ((24, .bool (decide (a0 ≤ 90))) :: (30, .bool (decide (a0 ≤ 90))) :: (29, .bool (decide (a0 ≤ 90))) :: (28, .int .u8 a0) :: (27, .bool true) :: E5)
              refine ok_run 5 (p' := g63p9) (env' := E7) (H' := (mkH [])) (by kernel_rfl) ?_
              refine ok_keep [0, 24] (env' := [(0, .int .u8 a0), (24, .bool (decide (a0 ≤ 90)))]) (by kernel_rfl) ?_
              exact hj2 (decide (a0 ≤ 90))
            · let E8 : Env := ((24, .bool false) :: (30, .bool false) :: (29, .tuple []) :: (28, .tuple []) :: (27, .bool false) :: E5)
              refine ok_run 5 (p' := g63p9) (env' := E8) (H' := (mkH [])) (by kernel_rfl) ?_
              refine ok_keep [0, 24] (env' := [(0, .int .u8 a0), (24, .bool false)]) (by kernel_rfl) ?_
              exact hj2 false
      · refine ok_split 16 (b := decide (97 ≤ a0)) (by kernel_rfl) (fun hb => ?_) (fun hb => ?_)
        · let E9 : Env := ((13, .bool (decide (a0 ≤ 122))) :: (19, .bool (decide (a0 ≤ 122))) :: (18, .bool (decide (a0 ≤ 122))) :: (17, .int .u8 a0) :: (16, .bool true) :: E3)
          refine ok_run 5 (p' := g63p6) (env' := E9) (H' := (mkH [])) (by kernel_rfl) ?_
          refine ok_keep [0, 13] (env' := [(0, .int .u8 a0), (13, .bool (decide (a0 ≤ 122)))]) (by kernel_rfl) ?_
          exact hj1 (decide (a0 ≤ 122))
        · let E10 : Env := ((13, .bool false) :: (19, .bool false) :: (18, .tuple []) :: (17, .tuple []) :: (16, .bool false) :: E3)
          refine ok_run 5 (p' := g63p6) (env' := E10) (H' := (mkH [])) (by kernel_rfl) ?_
          refine ok_keep [0, 13] (env' := [(0, .int .u8 a0), (13, .bool false)]) (by kernel_rfl) ?_
          exact hj1 false
  · refine ok_split 6 (b := decide (48 ≤ a0)) (by kernel_rfl) (fun hb => ?_) (fun hb => ?_)
    · let E11 : Env := ((3, .bool (decide (a0 ≤ 57))) :: (9, .bool (decide (a0 ≤ 57))) :: (8, .bool (decide (a0 ≤ 57))) :: (7, .int .u8 a0) :: (6, .bool true) :: E1)
      refine ok_run 5 (p' := g63p2) (env' := E11) (H' := (mkH [])) (by kernel_rfl) ?_
      refine ok_keep [0, 3] (env' := [(0, .int .u8 a0), (3, .bool (decide (a0 ≤ 57)))]) (by kernel_rfl) ?_
      exact hj0 (decide (a0 ≤ 57))
    · let E12 : Env := ((3, .bool false) :: (9, .bool false) :: (8, .tuple []) :: (7, .tuple []) :: (6, .bool false) :: E1)
      refine ok_run 5 (p' := g63p2) (env' := E12) (H' := (mkH [])) (by kernel_rfl) ?_
      refine ok_keep [0, 3] (env' := [(0, .int .u8 a0), (3, .bool false)]) (by kernel_rfl) ?_
      exact hj0 false
end Go.Proofs.Ytokcjgjgojlhbaa.Am
