/- Function 25, plain, and that the program computes it. Printed by gen.py. -/
import Derived.Test.YtfkefelgjbfkjaaTy
set_option maxRecDepth 100000
set_option linter.unusedVariables false
namespace Go.Proofs.Ytfkefelgjbfkjaa.Am
open Go

/-! 25 galley/cell.Indent -/
noncomputable def X25 : Fx (List Nat) := ⟨Try.prog, cx, Try.f25, fun r => .str r, cxTi, cxOrd⟩
noncomputable def g25p0 : Pt := nav [0] (bodyAt Try.f25)
noncomputable def g25p1 : Pt := nav [0, 0, 0] g25p0
noncomputable def g25p2 : Pt := nav [0, 0, 0, 0] g25p1
noncomputable def g25p3 : Pt := nav [0, 0, 0, 0] g25p2
noncomputable def g25p4 : Pt := nav [0, 0] g25p3
noncomputable def g25p5 : Pt := nav [0, 0, 0] g25p4
noncomputable def g25p6 : Pt := nav [1, 0, 0, 0, 0] g25p5
noncomputable def g25p7 : Pt := nav [2, 0, 0] g25p5
noncomputable def g25p8 : Pt := nav [0, 0] g25p6
noncomputable def g25p10 : Pt := nav [0, 0] g25p8
noncomputable def g25_l3 (k : Nat)  (x0_3 : (List Int)) (n : Nat) : Int → (List Int) → Option (List Nat) :=
  Nat.rec (motive := fun _ => Int → (List Int) → Option (List Nat)) (fun _ _ => none) (fun _ ih => fun (y3_0 : Int) (y3_1 : (List Int)) => if (decide (y3_0 < (x0_3.length : Int))) then ((idxO y3_1 y3_0).bind fun x1_2 => (setO y3_1 x1_2 (32 : Int)).bind fun x1_3 => ih (fwrap .i64 (y3_0 + 1)) x1_3) else ((toS y3_1).bind fun x2_1 => some x2_1)) n
theorem g25_l3_s (k : Nat)  (x0_3 : (List Int)) (n : Nat) (y3_0 : Int) (y3_1 : (List Int)) : g25_l3 k x0_3 (n + 1) y3_0 y3_1 = (if (decide (y3_0 < (x0_3.length : Int))) then ((idxO y3_1 y3_0).bind fun x1_2 => (setO y3_1 x1_2 (32 : Int)).bind fun x1_3 => (g25_l3 k x0_3 n) (fwrap .i64 (y3_0 + 1)) x1_3) else ((toS y3_1).bind fun x2_1 => some x2_1)) := rfl
theorem g25_l3_ok (k : Nat)  (x0_3 : (List Int))  : ∀ (n : Nat) (y3_0 : Int) (y3_1 : (List Int)), Ok X25 g25p3 [(3, .own 0 (y3_1).length 1), (10, .int .i64 (x0_3.length : Int)), (11, .int .i64 y3_0)] (mkH [⟨(y3_1).flatMap e5, (y3_1).length * 1, false⟩]) (g25_l3 k x0_3 n y3_0 y3_1)
  | 0, _, _ => ok_none
  | n + 1, y3_0, y3_1 => by
    have ih := g25_l3_ok k x0_3 n
    rw [g25_l3_s]
    refine ok_ent (p' := nav [0] g25p3) (by kernel_rfl) ?_
    refine ok_run 5 (p' := g25p5) (env' := [(12, .bool (decide (y3_0 < (x0_3.length : Int)))), (3, .own 0 (y3_1).length 1), (10, .int .i64 (x0_3.length : Int)), (11, .int .i64 y3_0)]) (H' := (mkH [⟨(y3_1).flatMap e5, (y3_1).length * 1, false⟩])) (by kernel_rfl) ?_
    refine ok_split 12 (b := decide (y3_0 < (x0_3.length : Int))) (by kernel_rfl) (fun hb => ?_) (fun hb => ?_)
    · refine ok_run 12 (p' := (atN 2 (ctl1 g25p8))) (env' := [(15, .int .i64 y3_0), (14, .own 0 (y3_1).length 1), (4, .int .i64 y3_0), (13, .int .i64 y3_0), (12, .bool true), (12, .bool (decide (y3_0 < (x0_3.length : Int)))), (3, .own 0 (y3_1).length 1), (10, .int .i64 (x0_3.length : Int)), (11, .int .i64 y3_0)]) (H' := (mkH [⟨(y3_1).flatMap e5, (y3_1).length * 1, false⟩])) (by kernel_rfl) ?_
      refine ok_chk (fun (x1_2 : Nat) => (.ptr 0 ((y3_1).length * 1) (x1_2 * 1), (mkH [⟨(y3_1).flatMap e5, (y3_1).length * 1, false⟩]))) (atN 3 (ctl1 g25p8)) (fun x1_2 => [(16, .ptr 0 ((y3_1).length * 1) (x1_2 * 1)), (15, .int .i64 y3_0), (14, .own 0 (y3_1).length 1), (4, .int .i64 y3_0), (13, .int .i64 y3_0), (12, .bool true), (12, .bool (decide (y3_0 < (x0_3.length : Int)))), (3, .own 0 (y3_1).length 1), (10, .int .i64 (x0_3.length : Int)), (11, .int .i64 y3_0)]) (oidxH (sz := 1) (by kernel_rfl)) (fun _ => by kernel_rfl) (fun x1_2 hx1_2 => ?_)
      refine ok_chk (fun (x1_3 : (List Int)) => (.top, (mkH [⟨(x1_3).flatMap e5, (x1_3).length * 1, false⟩]))) (atN 4 (ctl1 g25p8)) (fun x1_3 => [(16, .ptr 0 ((y3_1).length * 1) (x1_2 * 1)), (15, .int .i64 y3_0), (14, .own 0 (y3_1).length 1), (4, .int .i64 y3_0), (13, .int .i64 y3_0), (12, .bool true), (12, .bool (decide (y3_0 < (x0_3.length : Int)))), (3, .own 0 (y3_1).length 1), (10, .int .i64 (x0_3.length : Int)), (11, .int .i64 y3_0)]) (storeH (v := v5) (fun _ => rfl) (fun _ => rfl) [⟨(y3_1).flatMap e5, (y3_1).length * 1, false⟩] 0 (32 : Int) rfl rfl (by kernel_rfl)) (fun _ => by kernel_rfl) (fun x1_3 hx1_3 => ?_)
      refine ok_env (env' := [(16, .ptr 0 ((y3_1).length * 1) (x1_2 * 1)), (15, .int .i64 y3_0), (14, .own 0 (x1_3).length 1), (4, .int .i64 y3_0), (13, .int .i64 y3_0), (12, .bool true), (12, .bool (decide (y3_0 < (x0_3.length : Int)))), (3, .own 0 (x1_3).length 1), (10, .int .i64 (x0_3.length : Int)), (11, .int .i64 y3_0)]) (by rw [setO_len hx1_3]) ?_
      refine ok_run 5 (p' := g25p3) (env' := [(11, .int .i64 (fwrap .i64 (y3_0 + 1))), (17, .int .i64 (fwrap .i64 (y3_0 + 1))), (16, .ptr 0 ((y3_1).length * 1) (x1_2 * 1)), (15, .int .i64 y3_0), (14, .own 0 (x1_3).length 1), (4, .int .i64 y3_0), (13, .int .i64 y3_0), (12, .bool true), (12, .bool (decide (y3_0 < (x0_3.length : Int)))), (3, .own 0 (x1_3).length 1), (10, .int .i64 (x0_3.length : Int)), (11, .int .i64 y3_0)]) (H' := (mkH [⟨(x1_3).flatMap e5, (x1_3).length * 1, false⟩])) (by kernel_rfl) ?_
      refine ok_keep [3, 10, 11] (env' := [(3, .own 0 (x1_3).length 1), (10, .int .i64 (x0_3.length : Int)), (11, .int .i64 (fwrap .i64 (y3_0 + 1)))]) (by kernel_rfl) ?_
      exact ih (fwrap .i64 (y3_0 + 1)) x1_3
    · refine ok_run 5 (p' := (atN 1 (ctl1 g25p7))) (env' := [(18, .own 0 (y3_1).length 1), (12, .bool false), (12, .bool (decide (y3_0 < (x0_3.length : Int)))), (3, .own 0 (y3_1).length 1), (10, .int .i64 (x0_3.length : Int)), (11, .int .i64 y3_0)]) (H' := (mkH [⟨(y3_1).flatMap e5, (y3_1).length * 1, false⟩])) (by kernel_rfl) ?_
      refine ok_chk (fun (x2_1 : (List Nat)) => (.str x2_1, (mkH [⟨(y3_1).flatMap e5, (y3_1).length * 1, false⟩]))) (atN 2 (ctl1 g25p7)) (fun x2_1 => [(19, .str x2_1), (18, .own 0 (y3_1).length 1), (12, .bool false), (12, .bool (decide (y3_0 < (x0_3.length : Int)))), (3, .own 0 (y3_1).length 1), (10, .int .i64 (x0_3.length : Int)), (11, .int .i64 y3_0)]) (toSO (fun _ => rfl) [⟨(y3_1).flatMap e5, (y3_1).length * 1, false⟩] 0 (y3_1.length * 1) rfl rfl (Nat.le_refl _) (by kernel_rfl)) (fun _ => by kernel_rfl) (fun x2_1 hx2_1 => ?_)
      refine ok_run 3 (p' := .fin) (env' := [(2, .str x2_1), (19, .str x2_1), (18, .own 0 (y3_1).length 1), (12, .bool false), (12, .bool (decide (y3_0 < (x0_3.length : Int)))), (3, .own 0 (y3_1).length 1), (10, .int .i64 (x0_3.length : Int)), (11, .int .i64 y3_0)]) (H' := (mkH [⟨(y3_1).flatMap e5, (y3_1).length * 1, false⟩])) (by kernel_rfl) ?_
      exact ok_ret (r := x2_1) (xs := [.str x2_1]) (v := .str x2_1) (by kernel_rfl) (.pures (by kernel_rfl)) (by kernel_rfl)
noncomputable def g25 (k : Nat) (a0 : Int) : Option (List Nat) :=
  (mkS (0 : Int) 1 (minI (maxI a0 0) 20000)).bind fun x0_3 => g25_l3 k x0_3 k 0 x0_3
theorem g25_ok (k : Nat) (a0 : Int) (r : (List Nat)) (h : g25 k a0 = some r) : PureOk Try.prog 25 [.int .i64 a0] (.str r) := by
  refine pure_of X25 Try.func25 (by decide +kernel) (by kernel_rfl) (t := g25 k a0) ?_ h
  unfold g25
  refine ok_env (env' := [(0, .int .i64 a0)]) (by kernel_rfl) ?_
  refine ok_run 9 (p' := (atN 3 (ctl1 g25p1))) (env' := [(7, .int .i64 (minI (maxI a0 0) 20000)), (6, .int .i64 (maxI a0 0)), (5, .int .i64 a0), (2, .str []), (0, .int .i64 a0)]) (H' := (mkH [])) (by kernel_rfl) ?_
  refine ok_chk (fun (x0_3 : (List Int)) => (.slice 0 ((x0_3).flatMap e5).length 0 (x0_3).length 1, (mkH [⟨(x0_3).flatMap e5, 0, false⟩]))) (atN 4 (ctl1 g25p1)) (fun x0_3 => [(8, .slice 0 ((x0_3).flatMap e5).length 0 (x0_3).length 1), (7, .int .i64 (minI (maxI a0 0) 20000)), (6, .int .i64 (maxI a0 0)), (5, .int .i64 a0), (2, .str []), (0, .int .i64 a0)]) (makeH (sz := 1) e5_len rfl (0 : Int) [] 1 rfl (by kernel_rfl)) (fun _ => by kernel_rfl) (fun x0_3 hx0_3 => ?_)
  refine ok_sown 8 0 ((x0_3).flatMap e5).length (x0_3).length 1 (by kernel_rfl) (flatMap_len e5_len _) ?_
  refine ok_env (env' := [(8, .own 0 (x0_3).length 1), (8, .slice 0 ((x0_3).flatMap e5).length 0 (x0_3).length 1), (7, .int .i64 (minI (maxI a0 0) 20000)), (6, .int .i64 (maxI a0 0)), (5, .int .i64 a0), (2, .str []), (0, .int .i64 a0)]) (by kernel_rfl) ?_
  refine ok_minv [⟨(x0_3).flatMap e5, 0, false⟩] 0 ((x0_3).flatMap e5) 0 ((x0_3).length * 1) rfl rfl (Nat.zero_le _) ?_
  refine ok_heap (H' := (mkH [⟨(x0_3).flatMap e5, (x0_3).length * 1, false⟩])) (by kernel_rfl) ?_
  refine ok_run 11 (p' := g25p3) (env' := [(11, .int .i64 0), (10, .int .i64 (x0_3.length : Int)), (9, .own 0 (x0_3).length 1), (3, .own 0 (x0_3).length 1), (8, .own 0 (x0_3).length 1), (8, .slice 0 ((x0_3).flatMap e5).length 0 (x0_3).length 1), (7, .int .i64 (minI (maxI a0 0) 20000)), (6, .int .i64 (maxI a0 0)), (5, .int .i64 a0), (2, .str []), (0, .int .i64 a0)]) (H' := (mkH [⟨(x0_3).flatMap e5, (x0_3).length * 1, false⟩])) (by kernel_rfl) ?_
  refine ok_keep [3, 10, 11] (env' := [(3, .own 0 (x0_3).length 1), (10, .int .i64 (x0_3.length : Int)), (11, .int .i64 0)]) (by kernel_rfl) ?_
  exact (g25_l3_ok k x0_3 k) 0 x0_3
end Go.Proofs.Ytfkefelgjbfkjaa.Am
