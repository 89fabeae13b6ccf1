/- Function 60, plain, and that the program computes it. Printed by gen.py. -/
import Derived.Test.YtbmijiibfaacmaaTy
import Derived.Test.YtbmijiibfaacmaaG74
set_option maxRecDepth 100000
set_option linter.unusedVariables false
namespace Go.Proofs.Ytbmijiibfaacmaa.Am
open Go

/-! 60 galley/galleyref6.inner -/
noncomputable def X60 : Fx Int := ⟨Try.prog, cx, Try.f60, fun r => .int .i64 r, 0, fun _ => H0, cxTi, cxOrd⟩
noncomputable def g60p0 : Pt := nav [0] (bodyAt Try.f60)
noncomputable def g60p1 : Pt := nav [0, 0, 0, 0, 0] g60p0
noncomputable def g60p2 : Pt := nav [0, 0, 0] g60p1
noncomputable def g60p3 : Pt := nav [0, 0] g60p2
noncomputable def g60p4 : Pt := nav [1, 0, 0] g60p3
noncomputable def g60p5 : Pt := nav [2, 0, 0] g60p3
noncomputable def g60_l1 (k : Nat)  (a0 : (List Nat)) (n : Nat) : Int → Option Int :=
  Nat.rec (motive := fun _ => Int → Option Int) (fun _ => none) (fun _ ih => fun (y1_0 : Int) => jn (fun (z2 : Bool × Int) => if z2.1 then (ih (fwrap .i64 (z2.2 + 1))) else (some z2.2)) (fun j2 => if (decide (y1_0 < (a0.length : Int))) then ((nthS a0 y1_0).bind fun x0_7 => (g74 k x0_7).bind fun x0_8 => j2 (x0_8, y1_0)) else (j2 (false, y1_0)))) n
theorem g60_l1_s (k : Nat)  (a0 : (List Nat)) (n : Nat) (y1_0 : Int) : g60_l1 k a0 (n + 1) y1_0 = (jn (fun (z2 : Bool × Int) => if z2.1 then ((g60_l1 k a0 n) (fwrap .i64 (z2.2 + 1))) else (some z2.2)) (fun j2 => if (decide (y1_0 < (a0.length : Int))) then ((nthS a0 y1_0).bind fun x0_7 => (g74 k x0_7).bind fun x0_8 => j2 (x0_8, y1_0)) else (j2 (false, y1_0)))) := rfl
theorem g60_l1_ok (k : Nat)  (a0 : (List Nat))  : ∀ (n : Nat) (y1_0 : Int), Ok X60 g60p1 [(0, .str a0), (1, .int .i64 y1_0)] (mkH []) (g60_l1 k a0 n y1_0)
  | 0, _ => ok_none
  | n + 1, y1_0 => by
    have ih := g60_l1_ok k a0 n
    rw [g60_l1_s]
    refine ok_ent (p' := nav [0] g60p1) (by kernel_rfl) ?_
    refine ok_run 8 (p' := (atN 5 (ctl1 g60p2))) (env' := [(9, .bool (decide (y1_0 < (a0.length : Int)))), (8, .bool (decide (y1_0 < (a0.length : Int)))), (7, .int .i64 (a0.length : Int)), (6, .str a0), (5, .int .i64 y1_0), (0, .str a0), (1, .int .i64 y1_0)]) (H' := (mkH [])) (by kernel_rfl) ?_
    refine ok_jn (f := fun (z2 : Bool × Int) => if z2.1 then ((g60_l1 k a0 n) (fwrap .i64 (z2.2 + 1))) else (some z2.2)) g60p3 (fun (z2 : Bool × Int) => [(0, .str a0), (1, .int .i64 z2.2), (14, .bool z2.1)]) (fun (z2 : Bool × Int) => (mkH [])) (fun z2 => ?_) (fun j2 hj2 => ?_)
    · refine ok_split 14 (b := z2.1) (by kernel_rfl) (fun hb => ?_) (fun hb => ?_)
      · refine ok_run 8 (p' := g60p1) (env' := [(1, .int .i64 (fwrap .i64 (z2.2 + 1))), (16, .int .i64 (fwrap .i64 (z2.2 + 1))), (15, .int .i64 z2.2), (14, .bool true), (0, .str a0), (1, .int .i64 z2.2), (14, .bool z2.1)]) (H' := (mkH [])) (by kernel_rfl) ?_
        refine ok_keep [0, 1] (env' := [(0, .str a0), (1, .int .i64 (fwrap .i64 (z2.2 + 1)))]) (by kernel_rfl) ?_
        exact ih (fwrap .i64 (z2.2 + 1))
      · refine ok_run 8 (p' := .fin) (env' := [(4, .int .i64 z2.2), (17, .int .i64 z2.2), (14, .bool false), (0, .str a0), (1, .int .i64 z2.2), (14, .bool z2.1)]) (H' := (mkH [])) (by kernel_rfl) ?_
        exact ok_ret (r := z2.2) (xs := [.int .i64 z2.2]) (v := .int .i64 z2.2) (by kernel_rfl) (by kernel_rfl) (by kernel_rfl) (.pures (by kernel_rfl)) (by kernel_rfl)
    · refine ok_split 9 (b := decide (y1_0 < (a0.length : Int))) (by kernel_rfl) (fun hb => ?_) (fun hb => ?_)
      · refine ok_run 2 (p' := (atN 7 (ctl1 g60p2))) (env' := [(11, .int .i64 y1_0), (10, .str a0), (9, .bool true), (9, .bool (decide (y1_0 < (a0.length : Int)))), (8, .bool (decide (y1_0 < (a0.length : Int)))), (7, .int .i64 (a0.length : Int)), (6, .str a0), (5, .int .i64 y1_0), (0, .str a0), (1, .int .i64 y1_0)]) (H' := (mkH [])) (by kernel_rfl) ?_
        refine ok_chk (fun (x0_7 : Int) => (.int .u8 x0_7, (mkH []))) (atN 8 (ctl1 g60p2)) (fun x0_7 => [(12, .int .u8 x0_7), (11, .int .i64 y1_0), (10, .str a0), (9, .bool true), (9, .bool (decide (y1_0 < (a0.length : Int)))), (8, .bool (decide (y1_0 < (a0.length : Int)))), (7, .int .i64 (a0.length : Int)), (6, .str a0), (5, .int .i64 y1_0), (0, .str a0), (1, .int .i64 y1_0)]) (idxH (by kernel_rfl)) (fun _ => by kernel_rfl) (fun x0_7 hx0_7 => ?_)
        refine ok_call (fun (x0_8 : Bool) => .bool x0_8) (atN 9 (ctl1 g60p2)) (fun x0_8 => [(13, .bool x0_8), (12, .int .u8 x0_7), (11, .int .i64 y1_0), (10, .str a0), (9, .bool true), (9, .bool (decide (y1_0 < (a0.length : Int)))), (8, .bool (decide (y1_0 < (a0.length : Int)))), (7, .int .i64 (a0.length : Int)), (6, .str a0), (5, .int .i64 y1_0), (0, .str a0), (1, .int .i64 y1_0)]) (fi := 74) (args := [.int .u8 x0_7]) (by kernel_rfl) (by kernel_rfl) (fun _ => by kernel_rfl) (fun r h => g74_ok k x0_7 r h) (fun _ => by kernel_rfl) (fun x0_8 hx0_8 => ?_)
        refine ok_run 2 (p' := g60p3) (env' := [(14, .bool x0_8), (13, .bool x0_8), (12, .int .u8 x0_7), (11, .int .i64 y1_0), (10, .str a0), (9, .bool true), (9, .bool (decide (y1_0 < (a0.length : Int)))), (8, .bool (decide (y1_0 < (a0.length : Int)))), (7, .int .i64 (a0.length : Int)), (6, .str a0), (5, .int .i64 y1_0), (0, .str a0), (1, .int .i64 y1_0)]) (H' := (mkH [])) (by kernel_rfl) ?_
        refine ok_keep [0, 1, 14] (env' := [(0, .str a0), (1, .int .i64 y1_0), (14, .bool x0_8)]) (by kernel_rfl) ?_
        exact hj2 (x0_8, y1_0)
      · refine ok_run 6 (p' := g60p3) (env' := [(14, .bool false), (13, .tuple []), (12, .tuple []), (11, .tuple []), (10, .tuple []), (9, .bool false), (9, .bool (decide (y1_0 < (a0.length : Int)))), (8, .bool (decide (y1_0 < (a0.length : Int)))), (7, .int .i64 (a0.length : Int)), (6, .str a0), (5, .int .i64 y1_0), (0, .str a0), (1, .int .i64 y1_0)]) (H' := (mkH [])) (by kernel_rfl) ?_
        refine ok_keep [0, 1, 14] (env' := [(0, .str a0), (1, .int .i64 y1_0), (14, .bool false)]) (by kernel_rfl) ?_
        exact hj2 (false, y1_0)
noncomputable def g60 (k : Nat) (a0 : (List Nat)) (a1 : Int) : Option Int :=
  g60_l1 k a0 k a1
theorem g60_ok (k : Nat) (a0 : (List Nat)) (a1 : Int) (r : Int) (h : g60 k a0 a1 = some r) : PureOk Try.prog 60 [.str a0, .int .i64 a1] (.int .i64 r) := by
  refine pure_of X60 (fun _ => rfl) Try.func60 (by decide +kernel) (by kernel_rfl) (t := g60 k a0 a1) ?_ h
  unfold g60
  refine ok_env (env' := [(0, .str a0), (1, .int .i64 a1)]) (by kernel_rfl) ?_
  refine ok_run 7 (p' := g60p1) (env' := [(4, .int .i64 0), (0, .str a0), (1, .int .i64 a1)]) (H' := (mkH [])) (by kernel_rfl) ?_
  refine ok_keep [0, 1] (env' := [(0, .str a0), (1, .int .i64 a1)]) (by kernel_rfl) ?_
  exact (g60_l1_ok k a0 k) a1
end Go.Proofs.Ytbmijiibfaacmaa.Am
