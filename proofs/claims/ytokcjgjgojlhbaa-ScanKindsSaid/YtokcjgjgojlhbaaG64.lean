/- Function 64, plain, and that the program computes it. Printed by gen.py. -/
import Derived.Test.YtokcjgjgojlhbaaTy
import Derived.Test.YtokcjgjgojlhbaaG63
set_option maxRecDepth 100000
set_option linter.unusedVariables false
namespace Go.Proofs.Ytokcjgjgojlhbaa.Am
open Go

/-! 64 galley/lit.Run -/
noncomputable def X64 : Fx Int := ⟨Try.prog, cx, Try.f64, fun r => .int .i64 r, 0, fun _ => H0, cxTi, cxOrd⟩
noncomputable def g64p0 : Pt := nav [0] (bodyAt Try.f64)
noncomputable def g64p1 : Pt := nav [0, 0, 0] g64p0
noncomputable def g64p2 : Pt := nav [0, 0, 0, 0] g64p1
noncomputable def g64p3 : Pt := nav [0, 0, 0, 0] g64p2
noncomputable def g64p4 : Pt := nav [0, 0, 0] g64p3
noncomputable def g64p5 : Pt := nav [0, 0] g64p4
noncomputable def g64p6 : Pt := nav [1, 0, 0, 0, 0, 0] g64p5
noncomputable def g64p7 : Pt := nav [2, 0, 0] g64p5
noncomputable def g64p8 : Pt := nav [0, 0] g64p6
noncomputable def g64p10 : Pt := nav [1] g64p8
noncomputable def g64p11 : Pt := nav [2, 0] g64p8
noncomputable def g64p12 : Pt := nav [0, 0] g64p10
noncomputable def g64p13 : Pt := nav [0, 0] g64p11
noncomputable def g64p14 : Pt := nav [1, 0] g64p13
noncomputable def g64_l2 (k : Nat)  (a0 : (List Nat)) (a1 : Int) (n : Nat) : Int → Int → Option Int :=
  Nat.rec (motive := fun _ => Int → Int → Option Int) (fun _ _ => none) (fun _ ih => fun (y2_0 : Int) (y2_1 : Int) => if (decide (y2_1 < (a0.length : Int))) then ((nthS a0 y2_1).bind fun x0_2 => (g63 k x0_2).bind fun x0_3 => jn (fun (z3 : Int × Int) => ih z3.1 (fwrap .i64 (z3.2 + 1))) (fun j3 => if (decide (x0_3 < a1)) then (j3 (fwrap .i64 (y2_1 + 1), y2_1)) else ((nthS a0 y2_1).bind fun x1_2 => jn (fun (z4 : Int × Int × Bool) => if z4.2.2 then (some z4.1) else (j3 (z4.1, z4.2.1))) (fun j4 => if (!decide (x1_2 = 95)) then (j4 (y2_0, y2_1, true)) else (if (decide (y2_1 = 0)) then (j4 (y2_0, y2_1, true)) else (j4 (y2_0, y2_1, !decide (y2_0 = y2_1)))))))) else (some y2_0)) n
theorem g64_l2_s (k : Nat)  (a0 : (List Nat)) (a1 : Int) (n : Nat) (y2_0 : Int) (y2_1 : Int) : g64_l2 k a0 a1 (n + 1) y2_0 y2_1 = (if (decide (y2_1 < (a0.length : Int))) then ((nthS a0 y2_1).bind fun x0_2 => (g63 k x0_2).bind fun x0_3 => jn (fun (z3 : Int × Int) => (g64_l2 k a0 a1 n) z3.1 (fwrap .i64 (z3.2 + 1))) (fun j3 => if (decide (x0_3 < a1)) then (j3 (fwrap .i64 (y2_1 + 1), y2_1)) else ((nthS a0 y2_1).bind fun x1_2 => jn (fun (z4 : Int × Int × Bool) => if z4.2.2 then (some z4.1) else (j3 (z4.1, z4.2.1))) (fun j4 => if (!decide (x1_2 = 95)) then (j4 (y2_0, y2_1, true)) else (if (decide (y2_1 = 0)) then (j4 (y2_0, y2_1, true)) else (j4 (y2_0, y2_1, !decide (y2_0 = y2_1)))))))) else (some y2_0)) := rfl
theorem g64_l2_ok (k : Nat)  (a0 : (List Nat)) (a1 : Int)  : ∀ (n : Nat) (y2_0 : Int) (y2_1 : Int), Ok X64 g64p3 [(0, .str a0), (1, .int .i64 a1), (5, .int .i64 y2_0), (6, .int .i64 y2_1)] (mkH []) (g64_l2 k a0 a1 n y2_0 y2_1)
  | 0, _, _ => ok_none
  | n + 1, y2_0, y2_1 => by
    have ih := g64_l2_ok k a0 a1 n
    rw [g64_l2_s]
    refine ok_ent (p' := nav [0] g64p3) (by kernel_rfl) ?_
    let E2 : Env := [(10, .bool (decide (y2_1 < (a0.length : Int)))), (9, .int .i64 (a0.length : Int)), (8, .str a0), (7, .int .i64 y2_1), (0, .str a0), (1, .int .i64 a1), (5, .int .i64 y2_0), (6, .int .i64 y2_1)]
    refine ok_run 8 (p' := g64p5) (env' := E2) (H' := (mkH [])) (by kernel_rfl) ?_
    refine ok_split 10 (b := decide (y2_1 < (a0.length : Int))) (by kernel_rfl) (fun hb => ?_) (fun hb => ?_)
    · refine ok_run 9 (p' := (atN 2 (ctl1 g64p6))) (env' := ((15, .int .i64 y2_1) :: (14, .str a0) :: (10, .bool true) :: E2)) (H' := (mkH [])) (by kernel_rfl) ?_
      refine ok_chk (fun (x0_2 : Int) => (.int .u8 x0_2, (mkH []))) (atN 3 (ctl1 g64p6)) (fun x0_2 => ((16, .int .u8 x0_2) :: (15, .int .i64 y2_1) :: (14, .str a0) :: (10, .bool true) :: E2)) (idxH (by kernel_rfl)) (fun _ => by kernel_rfl) (fun x0_2 hx0_2 => ?_)
      refine ok_call (fun (x0_3 : Int) => .int .i64 x0_3) (atN 4 (ctl1 g64p6)) (fun x0_3 => ((17, .int .i64 x0_3) :: (16, .int .u8 x0_2) :: (15, .int .i64 y2_1) :: (14, .str a0) :: (10, .bool true) :: E2)) (fi := 63) (args := [.int .u8 x0_2]) (by kernel_rfl) (by kernel_rfl) (fun _ => by kernel_rfl) (fun r h => g63_ok k x0_2 r h) (fun _ => by kernel_rfl) (fun x0_3 hx0_3 => ?_)
      let E3 : Env := ((13, .bool (decide (x0_3 < a1))) :: (19, .bool (decide (x0_3 < a1))) :: (18, .int .i64 a1) :: (17, .int .i64 x0_3) :: (16, .int .u8 x0_2) :: (15, .int .i64 y2_1) :: (14, .str a0) :: (10, .bool true) :: E2)
      refine ok_run 4 (p' := g64p8) (env' := E3) (H' := (mkH [])) (by kernel_rfl) ?_
      refine ok_keep [0, 1, 5, 6, 13] (env' := [(0, .str a0), (1, .int .i64 a1), (5, .int .i64 y2_0), (6, .int .i64 y2_1), (13, .bool (decide (x0_3 < a1)))]) (by kernel_rfl) ?_
      refine ok_jn (f := fun (z3 : Int × Int) => (g64_l2 k a0 a1 n) z3.1 (fwrap .i64 (z3.2 + 1))) g64p12 (fun (z3 : Int × Int) => [(0, .str a0), (1, .int .i64 a1), (5, .int .i64 z3.1), (6, .int .i64 z3.2)]) (fun (z3 : Int × Int) => (mkH [])) (fun z3 => ?_) (fun j3 hj3 => ?_)
      · let E4 : Env := [(6, .int .i64 (fwrap .i64 (z3.2 + 1))), (12, .int .i64 (fwrap .i64 (z3.2 + 1))), (11, .int .i64 z3.2), (0, .str a0), (1, .int .i64 a1), (5, .int .i64 z3.1), (6, .int .i64 z3.2)]
        refine ok_run 5 (p' := g64p3) (env' := E4) (H' := (mkH [])) (by kernel_rfl) ?_
        refine ok_keep [0, 1, 5, 6] (env' := [(0, .str a0), (1, .int .i64 a1), (5, .int .i64 z3.1), (6, .int .i64 (fwrap .i64 (z3.2 + 1)))]) (by kernel_rfl) ?_
        exact ih z3.1 (fwrap .i64 (z3.2 + 1))
      · refine ok_split 13 (b := decide (x0_3 < a1)) (by kernel_rfl) (fun hb => ?_) (fun hb => ?_)
        · let E5 : Env := [(5, .int .i64 (fwrap .i64 (y2_1 + 1))), (21, .int .i64 (fwrap .i64 (y2_1 + 1))), (20, .int .i64 y2_1), (13, .bool true), (0, .str a0), (1, .int .i64 a1), (5, .int .i64 y2_0), (6, .int .i64 y2_1), (13, .bool (decide (x0_3 < a1)))]
          refine ok_run 6 (p' := g64p12) (env' := E5) (H' := (mkH [])) (by kernel_rfl) ?_
          refine ok_keep [0, 1, 5, 6] (env' := [(0, .str a0), (1, .int .i64 a1), (5, .int .i64 (fwrap .i64 (y2_1 + 1))), (6, .int .i64 y2_1)]) (by kernel_rfl) ?_
          exact hj3 (fwrap .i64 (y2_1 + 1), y2_1)
        · let E6 : Env := [(24, .int .i64 y2_1), (23, .str a0), (13, .bool false), (0, .str a0), (1, .int .i64 a1), (5, .int .i64 y2_0), (6, .int .i64 y2_1), (13, .bool (decide (x0_3 < a1)))]
          refine ok_run 5 (p' := (atN 2 (ctl1 g64p11))) (env' := E6) (H' := (mkH [])) (by kernel_rfl) ?_
          refine ok_chk (fun (x1_2 : Int) => (.int .u8 x1_2, (mkH []))) (atN 3 (ctl1 g64p11)) (fun x1_2 => ((25, .int .u8 x1_2) :: E6)) (idxH (by kernel_rfl)) (fun _ => by kernel_rfl) (fun x1_2 hx1_2 => ?_)
          refine ok_run 2 (p' := (atN 5 (ctl1 g64p11))) (env' := ((27, .bool (!decide (x1_2 = 95))) :: (26, .bool (!decide (x1_2 = 95))) :: (25, .int .u8 x1_2) :: E6)) (H' := (mkH [])) (by kernel_rfl) ?_
          refine ok_jn (f := fun (z4 : Int × Int × Bool) => if z4.2.2 then (some z4.1) else (j3 (z4.1, z4.2.1))) g64p13 (fun (z4 : Int × Int × Bool) => [(0, .str a0), (1, .int .i64 a1), (5, .int .i64 z4.1), (6, .int .i64 z4.2.1), (22, .bool z4.2.2)]) (fun (z4 : Int × Int × Bool) => (mkH [])) (fun z4 => ?_) (fun j4 hj4 => ?_)
          · refine ok_split 22 (b := z4.2.2) (by kernel_rfl) (fun hb => ?_) (fun hb => ?_)
            · let E7 : Env := [(4, .int .i64 z4.1), (36, .int .i64 z4.1), (22, .bool true), (0, .str a0), (1, .int .i64 a1), (5, .int .i64 z4.1), (6, .int .i64 z4.2.1), (22, .bool z4.2.2)]
              refine ok_run 7 (p' := .fin) (env' := E7) (H' := (mkH [])) (by kernel_rfl) ?_
              exact ok_ret (r := z4.1) (xs := [.int .i64 z4.1]) (v := .int .i64 z4.1) (by kernel_rfl) (by kernel_rfl) (by kernel_rfl) (.pures (by kernel_rfl)) (by kernel_rfl)
            · let E8 : Env := [(22, .bool false), (0, .str a0), (1, .int .i64 a1), (5, .int .i64 z4.1), (6, .int .i64 z4.2.1), (22, .bool z4.2.2)]
              refine ok_run 2 (p' := g64p12) (env' := E8) (H' := (mkH [])) (by kernel_rfl) ?_
              refine ok_keep [0, 1, 5, 6] (env' := [(0, .str a0), (1, .int .i64 a1), (5, .int .i64 z4.1), (6, .int .i64 z4.2.1)]) (by kernel_rfl) ?_
              exact hj3 (z4.1, z4.2.1)
          · refine ok_split 27 (b := !decide (x1_2 = 95)) (by kernel_rfl) (fun hb => ?_) (fun hb => ?_)
            · let E9 : Env := ((22, .bool true) :: (35, .bool true) :: (34, .tuple []) :: (33, .tuple []) :: (32, .tuple []) :: (31, .bool true) :: (30, .bool true) :: (29, .tuple []) :: (28, .tuple []) :: (27, .bool true) :: (27, .bool (!decide (x1_2 = 95))) :: (26, .bool (!decide (x1_2 = 95))) :: (25, .int .u8 x1_2) :: E6)
              refine ok_run 10 (p' := g64p13) (env' := E9) (H' := (mkH [])) (by kernel_rfl) ?_
              refine ok_keep [0, 1, 5, 6, 22] (env' := [(0, .str a0), (1, .int .i64 a1), (5, .int .i64 y2_0), (6, .int .i64 y2_1), (22, .bool true)]) (by kernel_rfl) ?_
              exact hj4 (y2_0, y2_1, true)
            · let E10 : Env := ((31, .bool (decide (y2_1 = 0))) :: (30, .bool (decide (y2_1 = 0))) :: (29, .bool (decide (y2_1 = 0))) :: (28, .int .i64 y2_1) :: (27, .bool false) :: (27, .bool (!decide (x1_2 = 95))) :: (26, .bool (!decide (x1_2 = 95))) :: (25, .int .u8 x1_2) :: E6)
              refine ok_run 4 (p' := (atN 9 (ctl1 g64p11))) (env' := E10) (H' := (mkH [])) (by kernel_rfl) ?_
              refine ok_split 31 (b := decide (y2_1 = 0)) (by kernel_rfl) (fun hb => ?_) (fun hb => ?_)
              · let E11 : Env := ((22, .bool true) :: (35, .bool true) :: (34, .tuple []) :: (33, .tuple []) :: (32, .tuple []) :: (31, .bool true) :: E10)
                refine ok_run 6 (p' := g64p13) (env' := E11) (H' := (mkH [])) (by kernel_rfl) ?_
                refine ok_keep [0, 1, 5, 6, 22] (env' := [(0, .str a0), (1, .int .i64 a1), (5, .int .i64 y2_0), (6, .int .i64 y2_1), (22, .bool true)]) (by kernel_rfl) ?_
                exact hj4 (y2_0, y2_1, true)
              · let E12 : Env := ((22, .bool (!decide (y2_0 = y2_1))) :: (35, .bool (!decide (y2_0 = y2_1))) :: (34, .bool (!decide (y2_0 = y2_1))) :: (33, .int .i64 y2_1) :: (32, .int .i64 y2_0) :: (31, .bool false) :: E10)
                refine ok_run 6 (p' := g64p13) (env' := E12) (H' := (mkH [])) (by kernel_rfl) ?_
                refine ok_keep [0, 1, 5, 6, 22] (env' := [(0, .str a0), (1, .int .i64 a1), (5, .int .i64 y2_0), (6, .int .i64 y2_1), (22, .bool (!decide (y2_0 = y2_1)))]) (by kernel_rfl) ?_
                exact hj4 (y2_0, y2_1, !decide (y2_0 = y2_1))
    · refine ok_run 8 (p' := .fin) (env' := ((4, .int .i64 y2_0) :: (37, .int .i64 y2_0) :: (10, .bool false) :: E2)) (H' := (mkH [])) (by kernel_rfl) ?_
      exact ok_ret (r := y2_0) (xs := [.int .i64 y2_0]) (v := .int .i64 y2_0) (by kernel_rfl) (by kernel_rfl) (by kernel_rfl) (.pures (by kernel_rfl)) (by kernel_rfl)
noncomputable def g64 (k : Nat) (a0 : (List Nat)) (a1 : Int) : Option Int :=
  g64_l2 k a0 a1 k 0 0
theorem g64_ok (k : Nat) (a0 : (List Nat)) (a1 : Int) (r : Int) (h : g64 k a0 a1 = some r) : PureOk Try.prog 64 [.str a0, .int .i64 a1] (.int .i64 r) := by
  refine pure_of X64 (fun _ => rfl) Try.func64 (by decide +kernel) (by kernel_rfl) (t := g64 k a0 a1) ?_ h
  unfold g64
  refine ok_env (env' := [(0, .str a0), (1, .int .i64 a1)]) (by kernel_rfl) ?_
  let E1 : Env := [(6, .int .i64 0), (5, .int .i64 0), (4, .int .i64 0), (0, .str a0), (1, .int .i64 a1)]
  refine ok_run 15 (p' := g64p3) (env' := E1) (H' := (mkH [])) (by kernel_rfl) ?_
  refine ok_keep [0, 1, 5, 6] (env' := [(0, .str a0), (1, .int .i64 a1), (5, .int .i64 0), (6, .int .i64 0)]) (by kernel_rfl) ?_
  exact (g64_l2_ok k a0 a1 k) 0 0
end Go.Proofs.Ytokcjgjgojlhbaa.Am
