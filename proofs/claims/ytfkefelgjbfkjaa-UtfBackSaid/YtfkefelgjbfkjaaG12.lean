/- Function 12, plain, and that the program computes it. Printed by gen.py. -/
import Derived.Test.YtfkefelgjbfkjaaTy
import Derived.Test.YtfkefelgjbfkjaaG13
import Derived.Test.YtfkefelgjbfkjaaG15
import Derived.Test.YtfkefelgjbfkjaaG17
import Derived.Test.YtfkefelgjbfkjaaG19
set_option maxRecDepth 100000
set_option linter.unusedVariables false
namespace Go.Proofs.Ytfkefelgjbfkjaa.Am
open Go

/-! 12 galley/galleylaw1.told -/
noncomputable def X12 : Fx Bool := ⟨Try.prog, cx, Try.f12, fun r => .bool r, 0, fun _ => H0, cxTi, cxOrd⟩
noncomputable def g12p0 : Pt := nav [0] (bodyAt Try.f12)
noncomputable def g12p1 : Pt := nav [0, 0, 0] g12p0
noncomputable def g12p2 : Pt := nav [0, 0, 0] g12p1
noncomputable def g12 (k : Nat)  : Option Bool :=
  (g13 k ([195, 169] : List Nat) (0 : Int)).bind fun x0_0 => if (decide (x0_0.1 = 233)) then (if (decide (x0_0.2 = 2)) then ((g15 k ([237, 160, 128] : List Nat)).bind fun x1_7 => if (!x1_7) then ((g17 k ([97, 195, 169] : List Nat)).bind fun x1_11 => if (decide (x1_11 = 2)) then ((g19 k (8364 : Int)).bind fun x1_15 => if (eqL x1_15 [226, 130, 172]) then ((g19 k ((-1) : Int)).bind fun x1_19 => some (eqL x1_19 [])) else (some false)) else (some false)) else (some false)) else (some false)) else (some false)
theorem g12_ok (k : Nat)  (r : Bool) (h : g12 k  = some r) : PureOk Try.prog 12 [] (.bool r) := by
  refine pure_of X12 (fun _ => rfl) Try.func12 (by decide +kernel) (by kernel_rfl) (t := g12 k ) ?_ h
  unfold g12
  refine ok_env (env' := []) (by kernel_rfl) ?_
  refine ok_run 6 (p' := (atN 0 (ctl1 g12p1))) (env' := [(0, .bool false)]) (H' := (mkH [])) (by kernel_rfl) ?_
  refine ok_call (fun (x0_0 : (Int × Int)) => .tuple [.int .i64 x0_0.1, .int .i64 x0_0.2]) (atN 1 (ctl1 g12p1)) (fun x0_0 => [(4, .tuple [.int .i64 x0_0.1, .int .i64 x0_0.2]), (0, .bool false)]) (fi := 13) (args := [.str [195, 169], .int .i64 0]) (by kernel_rfl) (by kernel_rfl) (fun _ => by kernel_rfl) (fun r h => g13_ok k ([195, 169] : List Nat) (0 : Int) r h) (fun _ => by kernel_rfl) (fun x0_0 hx0_0 => ?_)
  let E1 : Env := [(9, .bool (decide (x0_0.1 = 233))), (8, .bool (decide (x0_0.1 = 233))), (7, .int .i64 x0_0.1), (2, .int .i64 x0_0.2), (1, .int .i64 x0_0.1), (6, .int .i64 x0_0.2), (5, .int .i64 x0_0.1), (3, .tuple [.int .i64 x0_0.1, .int .i64 x0_0.2]), (4, .tuple [.int .i64 x0_0.1, .int .i64 x0_0.2]), (0, .bool false)]
  refine ok_run 11 (p' := (atN 3 (ctl1 g12p2))) (env' := E1) (H' := (mkH [])) (by kernel_rfl) ?_
  refine ok_split 9 (b := decide (x0_0.1 = 233)) (by kernel_rfl) (fun hb => ?_) (fun hb => ?_)
  · let E2 : Env := ((13, .bool (decide (x0_0.2 = 2))) :: (12, .bool (decide (x0_0.2 = 2))) :: (11, .bool (decide (x0_0.2 = 2))) :: (10, .int .i64 x0_0.2) :: (9, .bool true) :: E1)
    refine ok_run 4 (p' := (atN 7 (ctl1 g12p2))) (env' := E2) (H' := (mkH [])) (by kernel_rfl) ?_
    refine ok_split 13 (b := decide (x0_0.2 = 2)) (by kernel_rfl) (fun hb => ?_) (fun hb => ?_)
    · refine ok_call (fun (x1_7 : Bool) => .bool x1_7) (atN 8 (ctl1 g12p2)) (fun x1_7 => ((14, .bool x1_7) :: (13, .bool true) :: E2)) (fi := 15) (args := [.str [237, 160, 128]]) (by kernel_rfl) (by kernel_rfl) (fun _ => by kernel_rfl) (fun r h => g15_ok k ([237, 160, 128] : List Nat) r h) (fun _ => by kernel_rfl) (fun x1_7 hx1_7 => ?_)
      let E3 : Env := ((17, .bool (!x1_7)) :: (16, .bool (!x1_7)) :: (15, .bool (!x1_7)) :: (14, .bool x1_7) :: (13, .bool true) :: E2)
      refine ok_run 3 (p' := (atN 11 (ctl1 g12p2))) (env' := E3) (H' := (mkH [])) (by kernel_rfl) ?_
      refine ok_split 17 (b := !x1_7) (by kernel_rfl) (fun hb => ?_) (fun hb => ?_)
      · refine ok_call (fun (x1_11 : Int) => .int .i64 x1_11) (atN 12 (ctl1 g12p2)) (fun x1_11 => ((18, .int .i64 x1_11) :: (17, .bool true) :: E3)) (fi := 17) (args := [.str [97, 195, 169]]) (by kernel_rfl) (by kernel_rfl) (fun _ => by kernel_rfl) (fun r h => g17_ok k ([97, 195, 169] : List Nat) r h) (fun _ => by kernel_rfl) (fun x1_11 hx1_11 => ?_)
        let E4 : Env := ((21, .bool (decide (x1_11 = 2))) :: (20, .bool (decide (x1_11 = 2))) :: (19, .bool (decide (x1_11 = 2))) :: (18, .int .i64 x1_11) :: (17, .bool true) :: E3)
        refine ok_run 3 (p' := (atN 15 (ctl1 g12p2))) (env' := E4) (H' := (mkH [])) (by kernel_rfl) ?_
        refine ok_split 21 (b := decide (x1_11 = 2)) (by kernel_rfl) (fun hb => ?_) (fun hb => ?_)
        · refine ok_call (fun (x1_15 : (List Nat)) => .str x1_15) (atN 16 (ctl1 g12p2)) (fun x1_15 => ((22, .str x1_15) :: (21, .bool true) :: E4)) (fi := 19) (args := [.int .i64 8364]) (by kernel_rfl) (by kernel_rfl) (fun _ => by kernel_rfl) (fun r h => g19_ok k (8364 : Int) r h) (fun _ => by kernel_rfl) (fun x1_15 hx1_15 => ?_)
          let E5 : Env := ((25, .bool (eqL x1_15 [226, 130, 172])) :: (24, .bool (eqL x1_15 [226, 130, 172])) :: (23, .bool (eqL x1_15 [226, 130, 172])) :: (22, .str x1_15) :: (21, .bool true) :: E4)
          refine ok_run 3 (p' := (atN 19 (ctl1 g12p2))) (env' := E5) (H' := (mkH [])) (by kernel_rfl) ?_
          refine ok_split 25 (b := eqL x1_15 [226, 130, 172]) (by kernel_rfl) (fun hb => ?_) (fun hb => ?_)
          · refine ok_call (fun (x1_19 : (List Nat)) => .str x1_19) (atN 20 (ctl1 g12p2)) (fun x1_19 => ((26, .str x1_19) :: (25, .bool true) :: E5)) (fi := 19) (args := [.int .i64 (-1)]) (by kernel_rfl) (by kernel_rfl) (fun _ => by kernel_rfl) (fun r h => g19_ok k ((-1) : Int) r h) (fun _ => by kernel_rfl) (fun x1_19 hx1_19 => ?_)
            let E6 : Env := ((0, .bool (eqL x1_19 [])) :: (28, .bool (eqL x1_19 [])) :: (27, .bool (eqL x1_19 [])) :: (26, .str x1_19) :: (25, .bool true) :: E5)
            refine ok_run 5 (p' := .fin) (env' := E6) (H' := (mkH [])) (by kernel_rfl) ?_
            exact ok_ret (r := (eqL x1_19 [])) (xs := [.bool (eqL x1_19 [])]) (v := .bool (eqL x1_19 [])) (by kernel_rfl) (by kernel_rfl) (by kernel_rfl) (.pures (by kernel_rfl)) (by kernel_rfl)
          · let E7 : Env := ((0, .bool false) :: (28, .bool false) :: (27, .tuple []) :: (26, .tuple []) :: (25, .bool false) :: E5)
            refine ok_run 6 (p' := .fin) (env' := E7) (H' := (mkH [])) (by kernel_rfl) ?_
            exact ok_ret (r := false) (xs := [.bool false]) (v := .bool false) (by kernel_rfl) (by kernel_rfl) (by kernel_rfl) (.pures (by kernel_rfl)) (by kernel_rfl)
        · let E8 : Env := ((0, .bool false) :: (28, .bool false) :: (27, .tuple []) :: (26, .tuple []) :: (25, .bool false) :: (24, .bool false) :: (23, .tuple []) :: (22, .tuple []) :: (21, .bool false) :: E4)
          refine ok_run 10 (p' := .fin) (env' := E8) (H' := (mkH [])) (by kernel_rfl) ?_
          exact ok_ret (r := false) (xs := [.bool false]) (v := .bool false) (by kernel_rfl) (by kernel_rfl) (by kernel_rfl) (.pures (by kernel_rfl)) (by kernel_rfl)
      · let E9 : Env := ((0, .bool false) :: (28, .bool false) :: (27, .tuple []) :: (26, .tuple []) :: (25, .bool false) :: (24, .bool false) :: (23, .tuple []) :: (22, .tuple []) :: (21, .bool false) :: (20, .bool false) :: (19, .tuple []) :: (18, .tuple []) :: (17, .bool false) :: E3)
        refine ok_run 14 (p' := .fin) (env' := E9) (H' := (mkH [])) (by kernel_rfl) ?_
        exact ok_ret (r := false) (xs := [.bool false]) (v := .bool false) (by kernel_rfl) (by kernel_rfl) (by kernel_rfl) (.pures (by kernel_rfl)) (by kernel_rfl)
    · let E10 : Env := ((0, .bool false) :: (28, .bool false) :: (27, .tuple []) :: (26, .tuple []) :: (25, .bool false) :: (24, .bool false) :: (23, .tuple []) :: (22, .tuple []) :: (21, .bool false) :: (20, .bool false) :: (19, .tuple []) :: (18, .tuple []) :: (17, .bool false) :: (16, .bool false) :: (15, .tuple []) :: (14, .tuple []) :: (13, .bool false) :: E2)
      refine ok_run 18 (p' := .fin) (env' := E10) (H' := (mkH [])) (by kernel_rfl) ?_
      exact ok_ret (r := false) (xs := [.bool false]) (v := .bool false) (by kernel_rfl) (by kernel_rfl) (by kernel_rfl) (.pures (by kernel_rfl)) (by kernel_rfl)
  · let E11 : Env := ((0, .bool false) :: (28, .bool false) :: (27, .tuple []) :: (26, .tuple []) :: (25, .bool false) :: (24, .bool false) :: (23, .tuple []) :: (22, .tuple []) :: (21, .bool false) :: (20, .bool false) :: (19, .tuple []) :: (18, .tuple []) :: (17, .bool false) :: (16, .bool false) :: (15, .tuple []) :: (14, .tuple []) :: (13, .bool false) :: (12, .bool false) :: (11, .tuple []) :: (10, .tuple []) :: (9, .bool false) :: E1)
    refine ok_run 22 (p' := .fin) (env' := E11) (H' := (mkH [])) (by kernel_rfl) ?_
    exact ok_ret (r := false) (xs := [.bool false]) (v := .bool false) (by kernel_rfl) (by kernel_rfl) (by kernel_rfl) (.pures (by kernel_rfl)) (by kernel_rfl)
end Go.Proofs.Ytfkefelgjbfkjaa.Am
