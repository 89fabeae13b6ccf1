/- Function 55, plain, and that the program computes it. Printed by gen.py. -/
import Derived.Test.YtokcjgjgojlhbaaTy
import Derived.Test.YtokcjgjgojlhbaaG64
set_option maxRecDepth 100000
set_option linter.unusedVariables false
namespace Go.Proofs.Ytokcjgjgojlhbaa.Am
open Go

/-! 55 galley/lit.Part -/
noncomputable def X55 : Fx Int := ⟨Try.prog, cx, Try.f55, fun r => .int .i64 r, 0, fun _ => H0, cxTi, cxOrd⟩
noncomputable def g55p0 : Pt := nav [0] (bodyAt Try.f55)
noncomputable def g55p1 : Pt := nav [0, 0, 0] g55p0
noncomputable def g55p2 : Pt := nav [0, 0, 0, 0] g55p1
noncomputable def g55p3 : Pt := nav [0, 0] g55p2
noncomputable def g55p4 : Pt := nav [1, 0] g55p3
noncomputable def g55p5 : Pt := nav [2, 0, 0] g55p3
noncomputable def g55p7 : Pt := nav [0, 0, 0, 0] g55p5
noncomputable def g55p8 : Pt := nav [0, 0] g55p7
noncomputable def g55p9 : Pt := nav [1, 0] g55p8
noncomputable def g55p10 : Pt := nav [2, 0, 0] g55p8
noncomputable def g55p11 : Pt := nav [0, 0, 0, 0] g55p10
noncomputable def g55p12 : Pt := nav [0, 0] g55p11
noncomputable def g55p13 : Pt := nav [1, 0] g55p12
noncomputable def g55p14 : Pt := nav [2, 0, 0] g55p12
noncomputable def g55p15 : Pt := nav [0, 0, 0, 0] g55p13
noncomputable def g55p16 : Pt := nav [0, 0] g55p15
noncomputable def g55p17 : Pt := nav [1] g55p16
noncomputable def g55p18 : Pt := nav [2, 0, 0] g55p16
noncomputable def g55p19 : Pt := nav [0, 0, 0] g55p18
noncomputable def g55p20 : Pt := nav [0, 0] g55p19
noncomputable def g55p21 : Pt := nav [1, 0] g55p20
noncomputable def g55 (k : Nat) (a0 : (List Nat)) : Option Int :=
  (g64 k a0 (10 : Int)).bind fun x0_1 => jn (fun (z6 : Bool) => if z6 then (some (0 : Int)) else ((subL a0 (some (fwrap .i64 (x0_1 + 1))) none).bind fun x2_3 => (g64 k x2_3 (10 : Int)).bind fun x2_4 => if (decide (x2_4 = 0)) then (some (0 : Int)) else (jn (fun (z7 : Bool) => jn (fun (z10 : Unit) => some (fwrap .i64 (fwrap .i64 (x0_1 + 1) + x2_4))) (fun j10 => if z7 then (jn (fun (z8 : Bool) => jn (fun (z9 : Int) => (subL a0 (some z9) none).bind fun x5_2 => (g64 k x5_2 (10 : Int)).bind fun x5_3 => if (decide (0 < x5_3)) then (some (fwrap .i64 (z9 + x5_3))) else (j10 ())) (fun j9 => if z8 then (j9 (fwrap .i64 (fwrap .i64 (fwrap .i64 (fwrap .i64 (x0_1 + 1) + x2_4) + 1) + 1))) else (j9 (fwrap .i64 (fwrap .i64 (fwrap .i64 (x0_1 + 1) + x2_4) + 1))))) (fun j8 => if (decide (fwrap .i64 (fwrap .i64 (fwrap .i64 (x0_1 + 1) + x2_4) + 1) < (a0.length : Int))) then ((nthS a0 (fwrap .i64 (fwrap .i64 (fwrap .i64 (x0_1 + 1) + x2_4) + 1))).bind fun x4_7 => if (decide (x4_7 = 43)) then (j8 true) else ((nthS a0 (fwrap .i64 (fwrap .i64 (fwrap .i64 (x0_1 + 1) + x2_4) + 1))).bind fun x4_12 => j8 (decide (x4_12 = 45)))) else (j8 false))) else (j10 ()))) (fun j7 => if (decide (fwrap .i64 (fwrap .i64 (x0_1 + 1) + x2_4) < (a0.length : Int))) then ((nthS a0 (fwrap .i64 (fwrap .i64 (x0_1 + 1) + x2_4))).bind fun x3_7 => j7 (decide (orI .u8 x3_7 32 = 101))) else (j7 false))))) (fun j6 => if (decide (x0_1 = 0)) then (j6 true) else (if (decide ((a0.length : Int) ≤ x0_1)) then (j6 true) else ((nthS a0 x0_1).bind fun x1_11 => j6 (!decide (x1_11 = 46)))))
theorem g55_ok (k : Nat) (a0 : (List Nat)) (r : Int) (h : g55 k a0 = some r) : PureOk Try.prog 55 [.str a0] (.int .i64 r) := by
  refine pure_of X55 (fun _ => rfl) Try.func55 (by decide +kernel) (by kernel_rfl) (t := g55 k a0) ?_ h
  unfold g55
  refine ok_env (env' := [(0, .str a0)]) (by kernel_rfl) ?_
  refine ok_run 7 (p' := (atN 1 (ctl1 g55p1))) (env' := [(7, .str a0), (2, .int .i64 0), (0, .str a0)]) (H' := (mkH [])) (by kernel_rfl) ?_
  refine ok_call (fun (x0_1 : Int) => .int .i64 x0_1) (atN 2 (ctl1 g55p1)) (fun x0_1 => [(8, .int .i64 x0_1), (7, .str a0), (2, .int .i64 0), (0, .str a0)]) (fi := 64) (args := [.str a0, .int .i64 10]) (by kernel_rfl) (by kernel_rfl) (fun _ => by kernel_rfl) (fun r h => g64_ok k a0 (10 : Int) r h) (fun _ => by kernel_rfl) (fun x0_1 hx0_1 => ?_)
  let E1 : Env := [(11, .bool (decide (x0_1 = 0))), (10, .bool (decide (x0_1 = 0))), (9, .int .i64 x0_1), (3, .int .i64 x0_1), (8, .int .i64 x0_1), (7, .str a0), (2, .int .i64 0), (0, .str a0)]
  refine ok_run 8 (p' := (atN 3 (ctl1 g55p2))) (env' := E1) (H' := (mkH [])) (by kernel_rfl) ?_
  refine ok_jn (f := fun (z6 : Bool) => if z6 then (some (0 : Int)) else ((subL a0 (some (fwrap .i64 (x0_1 + 1))) none).bind fun x2_3 => (g64 k x2_3 (10 : Int)).bind fun x2_4 => if (decide (x2_4 = 0)) then (some (0 : Int)) else (jn (fun (z7 : Bool) => jn (fun (z10 : Unit) => some (fwrap .i64 (fwrap .i64 (x0_1 + 1) + x2_4))) (fun j10 => if z7 then (jn (fun (z8 : Bool) => jn (fun (z9 : Int) => (subL a0 (some z9) none).bind fun x5_2 => (g64 k x5_2 (10 : Int)).bind fun x5_3 => if (decide (0 < x5_3)) then (some (fwrap .i64 (z9 + x5_3))) else (j10 ())) (fun j9 => if z8 then (j9 (fwrap .i64 (fwrap .i64 (fwrap .i64 (fwrap .i64 (x0_1 + 1) + x2_4) + 1) + 1))) else (j9 (fwrap .i64 (fwrap .i64 (fwrap .i64 (x0_1 + 1) + x2_4) + 1))))) (fun j8 => if (decide (fwrap .i64 (fwrap .i64 (fwrap .i64 (x0_1 + 1) + x2_4) + 1) < (a0.length : Int))) then ((nthS a0 (fwrap .i64 (fwrap .i64 (fwrap .i64 (x0_1 + 1) + x2_4) + 1))).bind fun x4_7 => if (decide (x4_7 = 43)) then (j8 true) else ((nthS a0 (fwrap .i64 (fwrap .i64 (fwrap .i64 (x0_1 + 1) + x2_4) + 1))).bind fun x4_12 => j8 (decide (x4_12 = 45)))) else (j8 false))) else (j10 ()))) (fun j7 => if (decide (fwrap .i64 (fwrap .i64 (x0_1 + 1) + x2_4) < (a0.length : Int))) then ((nthS a0 (fwrap .i64 (fwrap .i64 (x0_1 + 1) + x2_4))).bind fun x3_7 => j7 (decide (orI .u8 x3_7 32 = 101))) else (j7 false))))) g55p3 (fun (z6 : Bool) => [(0, .str a0), (3, .int .i64 x0_1), (22, .bool z6)]) (fun (z6 : Bool) => (mkH [])) (fun z6 => ?_) (fun j6 hj6 => ?_)
  · refine ok_split 22 (b := z6) (by kernel_rfl) (fun hb => ?_) (fun hb => ?_)
    · let E2 : Env := [(2, .int .i64 0), (22, .bool true), (0, .str a0), (3, .int .i64 x0_1), (22, .bool z6)]
      refine ok_run 6 (p' := .fin) (env' := E2) (H' := (mkH [])) (by kernel_rfl) ?_
      exact ok_ret (r := (0 : Int)) (xs := [.int .i64 0]) (v := .int .i64 0) (by kernel_rfl) (by kernel_rfl) (by kernel_rfl) (.pures (by kernel_rfl)) (by kernel_rfl)
    · let E3 : Env := [(25, .int .i64 (fwrap .i64 (x0_1 + 1))), (24, .int .i64 x0_1), (23, .str a0), (22, .bool false), (0, .str a0), (3, .int .i64 x0_1), (22, .bool z6)]
      refine ok_run 7 (p' := (atN 3 (ctl1 g55p5))) (env' := E3) (H' := (mkH [])) (by kernel_rfl) ?_
      refine ok_chk (fun (x2_3 : (List Nat)) => (.str x2_3, (mkH []))) (atN 4 (ctl1 g55p5)) (fun x2_3 => ((26, .str x2_3) :: E3)) (subH (some (fwrap .i64 (x0_1 + 1))) none (by kernel_rfl)) (fun _ => by kernel_rfl) (fun x2_3 hx2_3 => ?_)
      refine ok_call (fun (x2_4 : Int) => .int .i64 x2_4) (atN 5 (ctl1 g55p5)) (fun x2_4 => ((27, .int .i64 x2_4) :: (26, .str x2_3) :: E3)) (fi := 64) (args := [.str x2_3, .int .i64 10]) (by kernel_rfl) (by kernel_rfl) (fun _ => by kernel_rfl) (fun r h => g64_ok k x2_3 (10 : Int) r h) (fun _ => by kernel_rfl) (fun x2_4 hx2_4 => ?_)
      refine ok_run 4 (p' := g55p7) (env' := ((4, .int .i64 x2_4) :: (27, .int .i64 x2_4) :: (26, .str x2_3) :: E3)) (H' := (mkH [])) (by kernel_rfl) ?_
      refine ok_keep [0, 3, 4] (env' := [(0, .str a0), (3, .int .i64 x0_1), (4, .int .i64 x2_4)]) (by kernel_rfl) ?_
      let E4 : Env := [(29, .bool (decide (x2_4 = 0))), (28, .int .i64 x2_4), (0, .str a0), (3, .int .i64 x0_1), (4, .int .i64 x2_4)]
      refine ok_run 4 (p' := g55p8) (env' := E4) (H' := (mkH [])) (by kernel_rfl) ?_
      refine ok_split 29 (b := decide (x2_4 = 0)) (by kernel_rfl) (fun hb => ?_) (fun hb => ?_)
      · refine ok_run 6 (p' := .fin) (env' := ((2, .int .i64 0) :: (29, .bool true) :: E4)) (H' := (mkH [])) (by kernel_rfl) ?_
        exact ok_ret (r := (0 : Int)) (xs := [.int .i64 0]) (v := .int .i64 0) (by kernel_rfl) (by kernel_rfl) (by kernel_rfl) (.pures (by kernel_rfl)) (by kernel_rfl)
      · let E5 : Env := ((3, .int .i64 (fwrap .i64 (fwrap .i64 (x0_1 + 1) + x2_4))) :: (33, .int .i64 (fwrap .i64 (fwrap .i64 (x0_1 + 1) + x2_4))) :: (32, .int .i64 x2_4) :: (31, .int .i64 (fwrap .i64 (x0_1 + 1))) :: (30, .int .i64 x0_1) :: (29, .bool false) :: E4)
        refine ok_run 12 (p' := g55p11) (env' := E5) (H' := (mkH [])) (by kernel_rfl) ?_
        refine ok_keep [0, 3] (env' := [(0, .str a0), (3, .int .i64 (fwrap .i64 (fwrap .i64 (x0_1 + 1) + x2_4)))]) (by kernel_rfl) ?_
        let E6 : Env := [(38, .bool (decide (fwrap .i64 (fwrap .i64 (x0_1 + 1) + x2_4) < (a0.length : Int)))), (37, .bool (decide (fwrap .i64 (fwrap .i64 (x0_1 + 1) + x2_4) < (a0.length : Int)))), (36, .int .i64 (a0.length : Int)), (35, .str a0), (34, .int .i64 (fwrap .i64 (fwrap .i64 (x0_1 + 1) + x2_4))), (0, .str a0), (3, .int .i64 (fwrap .i64 (fwrap .i64 (x0_1 + 1) + x2_4)))]
        refine ok_run 6 (p' := (atN 5 (ctl1 g55p11))) (env' := E6) (H' := (mkH [])) (by kernel_rfl) ?_
        refine ok_jn (f := fun (z7 : Bool) => jn (fun (z10 : Unit) => some (fwrap .i64 (fwrap .i64 (x0_1 + 1) + x2_4))) (fun j10 => if z7 then (jn (fun (z8 : Bool) => jn (fun (z9 : Int) => (subL a0 (some z9) none).bind fun x5_2 => (g64 k x5_2 (10 : Int)).bind fun x5_3 => if (decide (0 < x5_3)) then (some (fwrap .i64 (z9 + x5_3))) else (j10 ())) (fun j9 => if z8 then (j9 (fwrap .i64 (fwrap .i64 (fwrap .i64 (fwrap .i64 (x0_1 + 1) + x2_4) + 1) + 1))) else (j9 (fwrap .i64 (fwrap .i64 (fwrap .i64 (x0_1 + 1) + x2_4) + 1))))) (fun j8 => if (decide (fwrap .i64 (fwrap .i64 (fwrap .i64 (x0_1 + 1) + x2_4) + 1) < (a0.length : Int))) then ((nthS a0 (fwrap .i64 (fwrap .i64 (fwrap .i64 (x0_1 + 1) + x2_4) + 1))).bind fun x4_7 => if (decide (x4_7 = 43)) then (j8 true) else ((nthS a0 (fwrap .i64 (fwrap .i64 (fwrap .i64 (x0_1 + 1) + x2_4) + 1))).bind fun x4_12 => j8 (decide (x4_12 = 45)))) else (j8 false))) else (j10 ()))) g55p12 (fun (z7 : Bool) => [(0, .str a0), (3, .int .i64 (fwrap .i64 (fwrap .i64 (x0_1 + 1) + x2_4))), (44, .bool z7)]) (fun (z7 : Bool) => (mkH [])) (fun z7 => ?_) (fun j7 hj7 => ?_)
        · refine ok_jn (f := fun (z10 : Unit) => some (fwrap .i64 (fwrap .i64 (x0_1 + 1) + x2_4))) g55p14 (fun (z10 : Unit) => [(3, .int .i64 (fwrap .i64 (fwrap .i64 (x0_1 + 1) + x2_4)))]) (fun (z10 : Unit) => (mkH [])) (fun z10 => ?_) (fun j10 hj10 => ?_)
          · refine ok_run 5 (p' := .fin) (env' := [(2, .int .i64 (fwrap .i64 (fwrap .i64 (x0_1 + 1) + x2_4))), (74, .int .i64 (fwrap .i64 (fwrap .i64 (x0_1 + 1) + x2_4))), (3, .int .i64 (fwrap .i64 (fwrap .i64 (x0_1 + 1) + x2_4)))]) (H' := (mkH [])) (by kernel_rfl) ?_
            exact ok_ret (r := (fwrap .i64 (fwrap .i64 (x0_1 + 1) + x2_4))) (xs := [.int .i64 (fwrap .i64 (fwrap .i64 (x0_1 + 1) + x2_4))]) (v := .int .i64 (fwrap .i64 (fwrap .i64 (x0_1 + 1) + x2_4))) (by kernel_rfl) (by kernel_rfl) (by kernel_rfl) (.pures (by kernel_rfl)) (by kernel_rfl)
          · refine ok_split 44 (b := z7) (by kernel_rfl) (fun hb => ?_) (fun hb => ?_)
            · let E7 : Env := [(51, .bool (decide (fwrap .i64 (fwrap .i64 (fwrap .i64 (x0_1 + 1) + x2_4) + 1) < (a0.length : Int)))), (50, .bool (decide (fwrap .i64 (fwrap .i64 (fwrap .i64 (x0_1 + 1) + x2_4) + 1) < (a0.length : Int)))), (49, .int .i64 (a0.length : Int)), (48, .str a0), (47, .int .i64 (fwrap .i64 (fwrap .i64 (fwrap .i64 (x0_1 + 1) + x2_4) + 1))), (5, .int .i64 (fwrap .i64 (fwrap .i64 (fwrap .i64 (x0_1 + 1) + x2_4) + 1))), (46, .int .i64 (fwrap .i64 (fwrap .i64 (fwrap .i64 (x0_1 + 1) + x2_4) + 1))), (45, .int .i64 (fwrap .i64 (fwrap .i64 (x0_1 + 1) + x2_4))), (44, .bool true), (0, .str a0), (3, .int .i64 (fwrap .i64 (fwrap .i64 (x0_1 + 1) + x2_4))), (44, .bool z7)]
              refine ok_run 15 (p' := (atN 5 (ctl1 g55p15))) (env' := E7) (H' := (mkH [])) (by kernel_rfl) ?_
              refine ok_jn (f := fun (z8 : Bool) => jn (fun (z9 : Int) => (subL a0 (some z9) none).bind fun x5_2 => (g64 k x5_2 (10 : Int)).bind fun x5_3 => if (decide (0 < x5_3)) then (some (fwrap .i64 (z9 + x5_3))) else (j10 ())) (fun j9 => if z8 then (j9 (fwrap .i64 (fwrap .i64 (fwrap .i64 (fwrap .i64 (x0_1 + 1) + x2_4) + 1) + 1))) else (j9 (fwrap .i64 (fwrap .i64 (fwrap .i64 (x0_1 + 1) + x2_4) + 1))))) g55p16 (fun (z8 : Bool) => [(0, .str a0), (3, .int .i64 (fwrap .i64 (fwrap .i64 (x0_1 + 1) + x2_4))), (5, .int .i64 (fwrap .i64 (fwrap .i64 (fwrap .i64 (x0_1 + 1) + x2_4) + 1))), (62, .bool z8)]) (fun (z8 : Bool) => (mkH [])) (fun z8 => ?_) (fun j8 hj8 => ?_)
              · refine ok_jn (f := fun (z9 : Int) => (subL a0 (some z9) none).bind fun x5_2 => (g64 k x5_2 (10 : Int)).bind fun x5_3 => if (decide (0 < x5_3)) then (some (fwrap .i64 (z9 + x5_3))) else (j10 ())) g55p18 (fun (z9 : Int) => [(0, .str a0), (3, .int .i64 (fwrap .i64 (fwrap .i64 (x0_1 + 1) + x2_4))), (5, .int .i64 z9)]) (fun (z9 : Int) => (mkH [])) (fun z9 => ?_) (fun j9 hj9 => ?_)
                · let E8 : Env := [(66, .int .i64 z9), (65, .str a0), (0, .str a0), (3, .int .i64 (fwrap .i64 (fwrap .i64 (x0_1 + 1) + x2_4))), (5, .int .i64 z9)]
                  refine ok_run 3 (p' := (atN 2 (ctl1 g55p18))) (env' := E8) (H' := (mkH [])) (by kernel_rfl) ?_
                  refine ok_chk (fun (x5_2 : (List Nat)) => (.str x5_2, (mkH []))) (atN 3 (ctl1 g55p18)) (fun x5_2 => ((67, .str x5_2) :: E8)) (subH (some z9) none (by kernel_rfl)) (fun _ => by kernel_rfl) (fun x5_2 hx5_2 => ?_)
                  refine ok_call (fun (x5_3 : Int) => .int .i64 x5_3) (atN 4 (ctl1 g55p18)) (fun x5_3 => ((68, .int .i64 x5_3) :: (67, .str x5_2) :: E8)) (fi := 64) (args := [.str x5_2, .int .i64 10]) (by kernel_rfl) (by kernel_rfl) (fun _ => by kernel_rfl) (fun r h => g64_ok k x5_2 (10 : Int) r h) (fun _ => by kernel_rfl) (fun x5_3 hx5_3 => ?_)
                  let E9 : Env := ((70, .bool (decide (0 < x5_3))) :: (69, .int .i64 x5_3) :: (6, .int .i64 x5_3) :: (68, .int .i64 x5_3) :: (67, .str x5_2) :: E8)
                  refine ok_run 7 (p' := g55p20) (env' := E9) (H' := (mkH [])) (by kernel_rfl) ?_
                  refine ok_split 70 (b := decide (0 < x5_3)) (by kernel_rfl) (fun hb => ?_) (fun hb => ?_)
                  · let E10 : Env := ((2, .int .i64 (fwrap .i64 (z9 + x5_3))) :: (73, .int .i64 (fwrap .i64 (z9 + x5_3))) :: (72, .int .i64 x5_3) :: (71, .int .i64 z9) :: (70, .bool true) :: E9)
                    refine ok_run 9 (p' := .fin) (env' := E10) (H' := (mkH [])) (by kernel_rfl) ?_
                    exact ok_ret (r := (fwrap .i64 (z9 + x5_3))) (xs := [.int .i64 (fwrap .i64 (z9 + x5_3))]) (v := .int .i64 (fwrap .i64 (z9 + x5_3))) (by kernel_rfl) (by kernel_rfl) (by kernel_rfl) (.pures (by kernel_rfl)) (by kernel_rfl)
                  · refine ok_run 3 (p' := g55p14) (env' := ((70, .bool false) :: E9)) (H' := (mkH [])) (by kernel_rfl) ?_
                    refine ok_keep [3] (env' := [(3, .int .i64 (fwrap .i64 (fwrap .i64 (x0_1 + 1) + x2_4)))]) (by kernel_rfl) ?_
                    exact hj10 ()
                · refine ok_split 62 (b := z8) (by kernel_rfl) (fun hb => ?_) (fun hb => ?_)
                  · let E11 : Env := [(5, .int .i64 (fwrap .i64 (fwrap .i64 (fwrap .i64 (fwrap .i64 (x0_1 + 1) + x2_4) + 1) + 1))), (64, .int .i64 (fwrap .i64 (fwrap .i64 (fwrap .i64 (fwrap .i64 (x0_1 + 1) + x2_4) + 1) + 1))), (63, .int .i64 (fwrap .i64 (fwrap .i64 (fwrap .i64 (x0_1 + 1) + x2_4) + 1))), (62, .bool true), (0, .str a0), (3, .int .i64 (fwrap .i64 (fwrap .i64 (x0_1 + 1) + x2_4))), (5, .int .i64 (fwrap .i64 (fwrap .i64 (fwrap .i64 (x0_1 + 1) + x2_4) + 1))), (62, .bool z8)]
                    refine ok_run 7 (p' := g55p18) (env' := E11) (H' := (mkH [])) (by kernel_rfl) ?_
                    refine ok_keep [0, 3, 5] (env' := [(0, .str a0), (3, .int .i64 (fwrap .i64 (fwrap .i64 (x0_1 + 1) + x2_4))), (5, .int .i64 (fwrap .i64 (fwrap .i64 (fwrap .i64 (fwrap .i64 (x0_1 + 1) + x2_4) + 1) + 1)))]) (by kernel_rfl) ?_
                    exact hj9 (fwrap .i64 (fwrap .i64 (fwrap .i64 (fwrap .i64 (x0_1 + 1) + x2_4) + 1) + 1))
                  · let E12 : Env := [(62, .bool false), (0, .str a0), (3, .int .i64 (fwrap .i64 (fwrap .i64 (x0_1 + 1) + x2_4))), (5, .int .i64 (fwrap .i64 (fwrap .i64 (fwrap .i64 (x0_1 + 1) + x2_4) + 1))), (62, .bool z8)]
                    refine ok_run 3 (p' := g55p18) (env' := E12) (H' := (mkH [])) (by kernel_rfl) ?_
                    refine ok_keep [0, 3, 5] (env' := [(0, .str a0), (3, .int .i64 (fwrap .i64 (fwrap .i64 (x0_1 + 1) + x2_4))), (5, .int .i64 (fwrap .i64 (fwrap .i64 (fwrap .i64 (x0_1 + 1) + x2_4) + 1)))]) (by kernel_rfl) ?_
                    exact hj9 (fwrap .i64 (fwrap .i64 (fwrap .i64 (x0_1 + 1) + x2_4) + 1))
              · refine ok_split 51 (b := decide (fwrap .i64 (fwrap .i64 (fwrap .i64 (x0_1 + 1) + x2_4) + 1) < (a0.length : Int))) (by kernel_rfl) (fun hb => ?_) (fun hb => ?_)
                · refine ok_run 2 (p' := (atN 7 (ctl1 g55p15))) (env' := ((53, .int .i64 (fwrap .i64 (fwrap .i64 (fwrap .i64 (x0_1 + 1) + x2_4) + 1))) :: (52, .str a0) :: (51, .bool true) :: E7)) (H' := (mkH [])) (by kernel_rfl) ?_
                  refine ok_chk (fun (x4_7 : Int) => (.int .u8 x4_7, (mkH []))) (atN 8 (ctl1 g55p15)) (fun x4_7 => ((54, .int .u8 x4_7) :: (53, .int .i64 (fwrap .i64 (fwrap .i64 (fwrap .i64 (x0_1 + 1) + x2_4) + 1))) :: (52, .str a0) :: (51, .bool true) :: E7)) (idxH (by kernel_rfl)) (fun _ => by kernel_rfl) (fun x4_7 hx4_7 => ?_)
                  let E13 : Env := ((56, .bool (decide (x4_7 = 43))) :: (55, .bool (decide (x4_7 = 43))) :: (54, .int .u8 x4_7) :: (53, .int .i64 (fwrap .i64 (fwrap .i64 (fwrap .i64 (x0_1 + 1) + x2_4) + 1))) :: (52, .str a0) :: (51, .bool true) :: E7)
                  refine ok_run 2 (p' := (atN 10 (ctl1 g55p15))) (env' := E13) (H' := (mkH [])) (by kernel_rfl) ?_
                  refine ok_split 56 (b := decide (x4_7 = 43)) (by kernel_rfl) (fun hb => ?_) (fun hb => ?_)
                  · let E14 : Env := ((62, .bool true) :: (61, .bool true) :: (60, .tuple []) :: (59, .tuple []) :: (58, .tuple []) :: (57, .tuple []) :: (56, .bool true) :: E13)
                    refine ok_run 7 (p' := g55p16) (env' := E14) (H' := (mkH [])) (by kernel_rfl) ?_
                    refine ok_keep [0, 3, 5, 62] (env' := [(0, .str a0), (3, .int .i64 (fwrap .i64 (fwrap .i64 (x0_1 + 1) + x2_4))), (5, .int .i64 (fwrap .i64 (fwrap .i64 (fwrap .i64 (x0_1 + 1) + x2_4) + 1))), (62, .bool true)]) (by kernel_rfl) ?_
                    exact hj8 true
                  · refine ok_run 2 (p' := (atN 12 (ctl1 g55p15))) (env' := ((58, .int .i64 (fwrap .i64 (fwrap .i64 (fwrap .i64 (x0_1 + 1) + x2_4) + 1))) :: (57, .str a0) :: (56, .bool false) :: E13)) (H' := (mkH [])) (by kernel_rfl) ?_
                    refine ok_chk (fun (x4_12 : Int) => (.int .u8 x4_12, (mkH []))) (atN 13 (ctl1 g55p15)) (fun x4_12 => ((59, .int .u8 x4_12) :: (58, .int .i64 (fwrap .i64 (fwrap .i64 (fwrap .i64 (x0_1 + 1) + x2_4) + 1))) :: (57, .str a0) :: (56, .bool false) :: E13)) (idxH (by kernel_rfl)) (fun _ => by kernel_rfl) (fun x4_12 hx4_12 => ?_)
                    let E15 : Env := ((62, .bool (decide (x4_12 = 45))) :: (61, .bool (decide (x4_12 = 45))) :: (60, .bool (decide (x4_12 = 45))) :: (59, .int .u8 x4_12) :: (58, .int .i64 (fwrap .i64 (fwrap .i64 (fwrap .i64 (x0_1 + 1) + x2_4) + 1))) :: (57, .str a0) :: (56, .bool false) :: E13)
                    refine ok_run 4 (p' := g55p16) (env' := E15) (H' := (mkH [])) (by kernel_rfl) ?_
                    refine ok_keep [0, 3, 5, 62] (env' := [(0, .str a0), (3, .int .i64 (fwrap .i64 (fwrap .i64 (x0_1 + 1) + x2_4))), (5, .int .i64 (fwrap .i64 (fwrap .i64 (fwrap .i64 (x0_1 + 1) + x2_4) + 1))), (62, .bool (decide (x4_12 = 45)))]) (by kernel_rfl) ?_
                    exact hj8 (decide (x4_12 = 45))
                · let E16 : Env := ((62, .bool false) :: (61, .tuple []) :: (60, .tuple []) :: (59, .tuple []) :: (58, .tuple []) :: (57, .tuple []) :: (56, .tuple []) :: (55, .tuple []) :: (54, .tuple []) :: (53, .tuple []) :: (52, .tuple []) :: (51, .bool false) :: E7)
                  refine ok_run 12 (p' := g55p16) (env' := E16) (H' := (mkH [])) (by kernel_rfl) ?_
                  refine ok_keep [0, 3, 5, 62] (env' := [(0, .str a0), (3, .int .i64 (fwrap .i64 (fwrap .i64 (x0_1 + 1) + x2_4))), (5, .int .i64 (fwrap .i64 (fwrap .i64 (fwrap .i64 (x0_1 + 1) + x2_4) + 1))), (62, .bool false)]) (by kernel_rfl) ?_
                  exact hj8 false
            · refine ok_run 3 (p' := g55p14) (env' := [(44, .bool false), (0, .str a0), (3, .int .i64 (fwrap .i64 (fwrap .i64 (x0_1 + 1) + x2_4))), (44, .bool z7)]) (H' := (mkH [])) (by kernel_rfl) ?_
              refine ok_keep [3] (env' := [(3, .int .i64 (fwrap .i64 (fwrap .i64 (x0_1 + 1) + x2_4)))]) (by kernel_rfl) ?_
              exact hj10 ()
        · refine ok_split 38 (b := decide (fwrap .i64 (fwrap .i64 (x0_1 + 1) + x2_4) < (a0.length : Int))) (by kernel_rfl) (fun hb => ?_) (fun hb => ?_)
          · refine ok_run 2 (p' := (atN 7 (ctl1 g55p11))) (env' := ((40, .int .i64 (fwrap .i64 (fwrap .i64 (x0_1 + 1) + x2_4))) :: (39, .str a0) :: (38, .bool true) :: E6)) (H' := (mkH [])) (by kernel_rfl) ?_
            refine ok_chk (fun (x3_7 : Int) => (.int .u8 x3_7, (mkH []))) (atN 8 (ctl1 g55p11)) (fun x3_7 => ((41, .int .u8 x3_7) :: (40, .int .i64 (fwrap .i64 (fwrap .i64 (x0_1 + 1) + x2_4))) :: (39, .str a0) :: (38, .bool true) :: E6)) (idxH (by kernel_rfl)) (fun _ => by kernel_rfl) (fun x3_7 hx3_7 => ?_)
            let E17 : Env := ((44, .bool (decide (orI .u8 x3_7 32 = 101))) :: (43, .bool (decide (orI .u8 x3_7 32 = 101))) :: (42, .int .u8 (orI .u8 x3_7 32)) :: (41, .int .u8 x3_7) :: (40, .int .i64 (fwrap .i64 (fwrap .i64 (x0_1 + 1) + x2_4))) :: (39, .str a0) :: (38, .bool true) :: E6)
            refine ok_run 4 (p' := g55p12) (env' := E17) (H' := (mkH [])) (by kernel_rfl) ?_
            refine ok_keep [0, 3, 44] (env' := [(0, .str a0), (3, .int .i64 (fwrap .i64 (fwrap .i64 (x0_1 + 1) + x2_4))), (44, .bool (decide (orI .u8 x3_7 32 = 101)))]) (by kernel_rfl) ?_
            exact hj7 (decide (orI .u8 x3_7 32 = 101))
          · let E18 : Env := ((44, .bool false) :: (43, .tuple []) :: (42, .tuple []) :: (41, .tuple []) :: (40, .tuple []) :: (39, .tuple []) :: (38, .bool false) :: E6)
            refine ok_run 7 (p' := g55p12) (env' := E18) (H' := (mkH [])) (by kernel_rfl) ?_
            refine ok_keep [0, 3, 44] (env' := [(0, .str a0), (3, .int .i64 (fwrap .i64 (fwrap .i64 (x0_1 + 1) + x2_4))), (44, .bool false)]) (by kernel_rfl) ?_
            exact hj7 false
  · refine ok_split 11 (b := decide (x0_1 = 0)) (by kernel_rfl) (fun hb => ?_) (fun hb => ?_)
    · let E19 : Env := ((22, .bool true) :: (21, .tuple []) :: (20, .tuple []) :: (19, .tuple []) :: (18, .tuple []) :: (17, .bool true) :: (16, .bool true) :: (15, .tuple []) :: (14, .tuple []) :: (13, .tuple []) :: (12, .tuple []) :: (11, .bool true) :: E1)
      refine ok_run 12 (p' := g55p3) (env' := E19) (H' := (mkH [])) (by kernel_rfl) ?_
      refine ok_keep [0, 3, 22] (env' := [(0, .str a0), (3, .int .i64 x0_1), (22, .bool true)]) (by kernel_rfl) ?_
      exact hj6 true
    · let E20 : Env := ((17, .bool (decide ((a0.length : Int) ≤ x0_1))) :: (16, .bool (decide ((a0.length : Int) ≤ x0_1))) :: (15, .bool (decide ((a0.length : Int) ≤ x0_1))) :: (14, .int .i64 (a0.length : Int)) :: (13, .str a0) :: (12, .int .i64 x0_1) :: (11, .bool false) :: E1)
      refine ok_run 6 (p' := (atN 9 (ctl1 g55p2))) (env' := E20) (H' := (mkH [])) (by kernel_rfl) ?_
      refine ok_split 17 (b := decide ((a0.length : Int) ≤ x0_1)) (by kernel_rfl) (fun hb => ?_) (fun hb => ?_)
      · let E21 : Env := ((22, .bool true) :: (21, .tuple []) :: (20, .tuple []) :: (19, .tuple []) :: (18, .tuple []) :: (17, .bool true) :: E20)
        refine ok_run 6 (p' := g55p3) (env' := E21) (H' := (mkH [])) (by kernel_rfl) ?_
        refine ok_keep [0, 3, 22] (env' := [(0, .str a0), (3, .int .i64 x0_1), (22, .bool true)]) (by kernel_rfl) ?_
        exact hj6 true
      · refine ok_run 2 (p' := (atN 11 (ctl1 g55p2))) (env' := ((19, .int .i64 x0_1) :: (18, .str a0) :: (17, .bool false) :: E20)) (H' := (mkH [])) (by kernel_rfl) ?_
        refine ok_chk (fun (x1_11 : Int) => (.int .u8 x1_11, (mkH []))) (atN 12 (ctl1 g55p2)) (fun x1_11 => ((20, .int .u8 x1_11) :: (19, .int .i64 x0_1) :: (18, .str a0) :: (17, .bool false) :: E20)) (idxH (by kernel_rfl)) (fun _ => by kernel_rfl) (fun x1_11 hx1_11 => ?_)
        let E22 : Env := ((22, .bool (!decide (x1_11 = 46))) :: (21, .bool (!decide (x1_11 = 46))) :: (20, .int .u8 x1_11) :: (19, .int .i64 x0_1) :: (18, .str a0) :: (17, .bool false) :: E20)
        refine ok_run 3 (p' := g55p3) (env' := E22) (H' := (mkH [])) (by kernel_rfl) ?_
        refine ok_keep [0, 3, 22] (env' := [(0, .str a0), (3, .int .i64 x0_1), (22, .bool (!decide (x1_11 = 46)))]) (by kernel_rfl) ?_
        exact hj6 (!decide (x1_11 = 46))
end Go.Proofs.Ytokcjgjgojlhbaa.Am
