/- Function 26, plain, and that the program computes it. Printed by gen.py. -/
import Derived.Test.YtfkefelgjbfkjaaTy
set_option maxRecDepth 100000
set_option linter.unusedVariables false
namespace Go.Proofs.Ytfkefelgjbfkjaa.Am
open Go

/-! 26 galley/galleyref1.Indent -/
noncomputable def X26 : Fx (List Nat) := ⟨Try.prog, cx, Try.f26, fun r => .str r, cxTi, cxOrd⟩
noncomputable def g26p0 : Pt := nav [0] (bodyAt Try.f26)
noncomputable def g26p1 : Pt := nav [0, 0, 0] g26p0
noncomputable def g26p2 : Pt := nav [0, 0, 0, 0] g26p1
noncomputable def g26p3 : Pt := nav [0, 0, 0, 0] g26p2
noncomputable def g26p4 : Pt := nav [0, 0, 0] g26p3
noncomputable def g26p5 : Pt := nav [0, 0] g26p4
noncomputable def g26p6 : Pt := nav [1, 0, 0, 0] g26p5
noncomputable def g26p7 : Pt := nav [2, 0, 0] g26p5
noncomputable def g26p8 : Pt := nav [0, 0] g26p6
noncomputable def g26_l2 (k : Nat)  (a0 : Int) (n : Nat) : Int → (List Int) → Option (List Nat) :=
  Nat.rec (motive := fun _ => Int → (List Int) → Option (List Nat)) (fun _ _ => none) (fun _ ih => fun (y2_0 : Int) (y2_1 : (List Int)) => jn (fun (z3 : Bool × Int × (List Int)) => if z3.1 then ((appS 1 z3.2.2 ([(32 : Int)] : List Int)).bind fun x0_2 => ih (fwrap .i64 (z3.2.1 + 1)) x0_2) else ((toS z3.2.2).bind fun x1_1 => some x1_1)) (fun j3 => if (decide (y2_0 < a0)) then (j3 (decide (y2_0 < 20000), y2_0, y2_1)) else (j3 (false, y2_0, y2_1)))) n
theorem g26_l2_s (k : Nat)  (a0 : Int) (n : Nat) (y2_0 : Int) (y2_1 : (List Int)) : g26_l2 k a0 (n + 1) y2_0 y2_1 = (jn (fun (z3 : Bool × Int × (List Int)) => if z3.1 then ((appS 1 z3.2.2 ([(32 : Int)] : List Int)).bind fun x0_2 => (g26_l2 k a0 n) (fwrap .i64 (z3.2.1 + 1)) x0_2) else ((toS z3.2.2).bind fun x1_1 => some x1_1)) (fun j3 => if (decide (y2_0 < a0)) then (j3 (decide (y2_0 < 20000), y2_0, y2_1)) else (j3 (false, y2_0, y2_1)))) := rfl
theorem g26_l2_ok (k : Nat)  (a0 : Int)  : ∀ (n : Nat) (y2_0 : Int) (y2_1 : (List Int)), Ok X26 g26p3 [(0, .int .i64 a0), (3, .own 0 (y2_1).length 1), (4, .int .i64 y2_0)] (mkH [⟨(y2_1).flatMap e5, 0, false⟩]) (g26_l2 k a0 n y2_0 y2_1)
  | 0, _, _ => ok_none
  | n + 1, y2_0, y2_1 => by
    have ih := g26_l2_ok k a0 n
    rw [g26_l2_s]
    refine ok_ent (p' := nav [0] g26p3) (by kernel_rfl) ?_
    refine ok_run 7 (p' := (atN 4 (ctl1 g26p4))) (env' := [(8, .bool (decide (y2_0 < a0))), (7, .bool (decide (y2_0 < a0))), (6, .int .i64 a0), (5, .int .i64 y2_0), (0, .int .i64 a0), (3, .own 0 (y2_1).length 1), (4, .int .i64 y2_0)]) (H' := (mkH [⟨(y2_1).flatMap e5, 0, false⟩])) (by kernel_rfl) ?_
    refine ok_jn (f := fun (z3 : Bool × Int × (List Int)) => if z3.1 then ((appS 1 z3.2.2 ([(32 : Int)] : List Int)).bind fun x0_2 => (g26_l2 k a0 n) (fwrap .i64 (z3.2.1 + 1)) x0_2) else ((toS z3.2.2).bind fun x1_1 => some x1_1)) g26p5 (fun (z3 : Bool × Int × (List Int)) => [(0, .int .i64 a0), (3, .own 0 (z3.2.2).length 1), (4, .int .i64 z3.2.1), (11, .bool z3.1)]) (fun (z3 : Bool × Int × (List Int)) => (mkH [⟨(z3.2.2).flatMap e5, 0, false⟩])) (fun z3 => ?_) (fun j3 hj3 => ?_)
    · refine ok_split 11 (b := z3.1) (by kernel_rfl) (fun hb => ?_) (fun hb => ?_)
      · refine ok_run 7 (p' := (atN 2 (ctl1 g26p6))) (env' := [(15, .slice 1 1 0 1 1), (14, .own 0 (z3.2.2).length 1), (11, .bool true), (0, .int .i64 a0), (3, .own 0 (z3.2.2).length 1), (4, .int .i64 z3.2.1), (11, .bool z3.1)]) (H' := (mkH [⟨(z3.2.2).flatMap e5, 0, false⟩, ⟨[.int .u8 32], 0, false⟩])) (by kernel_rfl) ?_
        refine ok_chk (fun (x0_2 : (List Int)) => (.own 0 (x0_2).length 1, (mkH [⟨(x0_2).flatMap e5, 0, false⟩, ⟨[.int .u8 32], 0, false⟩]))) (atN 3 (ctl1 g26p6)) (fun x0_2 => [(16, .own 0 (x0_2).length 1), (15, .slice 1 1 0 1 1), (14, .own 0 (z3.2.2).length 1), (11, .bool true), (0, .int .i64 a0), (3, .own 0 (z3.2.2).length 1), (4, .int .i64 z3.2.1), (11, .bool z3.1)]) (appH (sz := 1) e5_len rfl e5_one [⟨(z3.2.2).flatMap e5, 0, false⟩, ⟨[.int .u8 32], 0, false⟩] 0 1 z3.2.2 ([(32 : Int)] : List Int) rfl rfl (by kernel_rfl)) (fun _ => by kernel_rfl) (fun x0_2 hx0_2 => ?_)
        refine ok_run 7 (p' := g26p3) (env' := [(4, .int .i64 (fwrap .i64 (z3.2.1 + 1))), (13, .int .i64 (fwrap .i64 (z3.2.1 + 1))), (12, .int .i64 z3.2.1), (3, .own 0 (x0_2).length 1), (16, .own 0 (x0_2).length 1), (15, .slice 1 1 0 1 1), (14, .own 0 (z3.2.2).length 1), (11, .bool true), (0, .int .i64 a0), (3, .own 0 (z3.2.2).length 1), (4, .int .i64 z3.2.1), (11, .bool z3.1)]) (H' := (mkH [⟨(x0_2).flatMap e5, 0, false⟩, ⟨[.int .u8 32], 0, false⟩])) (by kernel_rfl) ?_
        refine ok_keep [0, 3, 4] (env' := [(0, .int .i64 a0), (3, .own 0 (x0_2).length 1), (4, .int .i64 (fwrap .i64 (z3.2.1 + 1)))]) (by kernel_rfl) ?_
        refine ok_cut [⟨(x0_2).flatMap e5, 0, false⟩] [⟨[.int .u8 32], 0, false⟩] rfl (by kernel_rfl) ⟨(purs_belows _ (purs_flatMap e5_pur _)), trivial⟩ ?_
        exact ih (fwrap .i64 (z3.2.1 + 1)) x0_2
      · refine ok_run 5 (p' := (atN 1 (ctl1 g26p7))) (env' := [(17, .own 0 (z3.2.2).length 1), (11, .bool false), (0, .int .i64 a0), (3, .own 0 (z3.2.2).length 1), (4, .int .i64 z3.2.1), (11, .bool z3.1)]) (H' := (mkH [⟨(z3.2.2).flatMap e5, 0, false⟩])) (by kernel_rfl) ?_
        refine ok_chk (fun (x1_1 : (List Nat)) => (.str x1_1, (mkH [⟨(z3.2.2).flatMap e5, 0, false⟩]))) (atN 2 (ctl1 g26p7)) (fun x1_1 => [(18, .str x1_1), (17, .own 0 (z3.2.2).length 1), (11, .bool false), (0, .int .i64 a0), (3, .own 0 (z3.2.2).length 1), (4, .int .i64 z3.2.1), (11, .bool z3.1)]) (toSO (fun _ => rfl) [⟨(z3.2.2).flatMap e5, 0, false⟩] 0 0 rfl rfl (Nat.zero_le _) (by kernel_rfl)) (fun _ => by kernel_rfl) (fun x1_1 hx1_1 => ?_)
        refine ok_run 3 (p' := .fin) (env' := [(2, .str x1_1), (18, .str x1_1), (17, .own 0 (z3.2.2).length 1), (11, .bool false), (0, .int .i64 a0), (3, .own 0 (z3.2.2).length 1), (4, .int .i64 z3.2.1), (11, .bool z3.1)]) (H' := (mkH [⟨(z3.2.2).flatMap e5, 0, false⟩])) (by kernel_rfl) ?_
        exact ok_ret (r := x1_1) (xs := [.str x1_1]) (v := .str x1_1) (by kernel_rfl) (.pures (by kernel_rfl)) (by kernel_rfl)
    · refine ok_split 8 (b := decide (y2_0 < a0)) (by kernel_rfl) (fun hb => ?_) (fun hb => ?_)
      · refine ok_run 4 (p' := g26p5) (env' := [(11, .bool (decide (y2_0 < 20000))), (10, .bool (decide (y2_0 < 20000))), (9, .int .i64 y2_0), (8, .bool true), (8, .bool (decide (y2_0 < a0))), (7, .bool (decide (y2_0 < a0))), (6, .int .i64 a0), (5, .int .i64 y2_0), (0, .int .i64 a0), (3, .own 0 (y2_1).length 1), (4, .int .i64 y2_0)]) (H' := (mkH [⟨(y2_1).flatMap e5, 0, false⟩])) (by kernel_rfl) ?_
        refine ok_keep [0, 3, 4, 11] (env' := [(0, .int .i64 a0), (3, .own 0 (y2_1).length 1), (4, .int .i64 y2_0), (11, .bool (decide (y2_0 < 20000)))]) (by kernel_rfl) ?_
        exact hj3 (decide (y2_0 < 20000), y2_0, y2_1)
      · refine ok_run 4 (p' := g26p5) (env' := [(11, .bool false), (10, .tuple []), (9, .tuple []), (8, .bool false), (8, .bool (decide (y2_0 < a0))), (7, .bool (decide (y2_0 < a0))), (6, .int .i64 a0), (5, .int .i64 y2_0), (0, .int .i64 a0), (3, .own 0 (y2_1).length 1), (4, .int .i64 y2_0)]) (H' := (mkH [⟨(y2_1).flatMap e5, 0, false⟩])) (by kernel_rfl) ?_
        refine ok_keep [0, 3, 4, 11] (env' := [(0, .int .i64 a0), (3, .own 0 (y2_1).length 1), (4, .int .i64 y2_0), (11, .bool false)]) (by kernel_rfl) ?_
        exact hj3 (false, y2_0, y2_1)
noncomputable def g26 (k : Nat) (a0 : Int) : Option (List Nat) :=
  g26_l2 k a0 k 0 ([] : List Int)
theorem g26_ok (k : Nat) (a0 : Int) (r : (List Nat)) (h : g26 k a0 = some r) : PureOk Try.prog 26 [.int .i64 a0] (.str r) := by
  refine pure_of X26 Try.func26 (by decide +kernel) (by kernel_rfl) (t := g26 k a0) ?_ h
  unfold g26
  refine ok_env (env' := [(0, .int .i64 a0)]) (by kernel_rfl) ?_
  refine ok_run 7 (p' := (atN 1 (ctl1 g26p1))) (env' := [(3, .nils), (2, .str []), (0, .int .i64 a0)]) (H' := (mkH [])) (by kernel_rfl) ?_
  refine ok_own [] 3 1 rfl (by kernel_rfl) ?_
  refine ok_env (env' := [(3, .own 0 (([] : List Int)).length 1), (3, .nils), (2, .str []), (0, .int .i64 a0)]) (by kernel_rfl) ?_
  refine ok_heap (H' := (mkH [⟨(([] : List Int)).flatMap e5, 0, false⟩])) (by kernel_rfl) ?_
  refine ok_run 8 (p' := g26p3) (env' := [(4, .int .i64 0), (3, .own 0 (([] : List Int)).length 1), (3, .nils), (2, .str []), (0, .int .i64 a0)]) (H' := (mkH [⟨(([] : List Int)).flatMap e5, 0, false⟩])) (by kernel_rfl) ?_
  refine ok_keep [0, 3, 4] (env' := [(0, .int .i64 a0), (3, .own 0 (([] : List Int)).length 1), (4, .int .i64 0)]) (by kernel_rfl) ?_
  exact (g26_l2_ok k a0 k) 0 ([] : List Int)
end Go.Proofs.Ytfkefelgjbfkjaa.Am
