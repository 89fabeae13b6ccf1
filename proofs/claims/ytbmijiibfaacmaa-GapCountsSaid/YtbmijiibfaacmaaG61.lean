/- Function 61, plain, and that the program computes it. Printed by gen.py. -/
import Derived.Test.YtbmijiibfaacmaaTy
set_option maxRecDepth 100000
set_option linter.unusedVariables false
namespace Go.Proofs.Ytbmijiibfaacmaa.Am
open Go

/-! 61 galley/galleyref1.Reserved -/
noncomputable def X61 : Fx Bool := ⟨Try.prog, cx, Try.f61, fun r => .bool r, 0, fun _ => H0, cxTi, cxOrd⟩
def g61c0 : List Nat := [97, 102, 116, 101, 114]
def g61c1 : List Nat := [97, 110, 100, 97, 108, 115, 111]
def g61c2 : List Nat := [98, 101, 103, 105, 110]
def g61c3 : List Nat := [111, 114, 101, 108, 115, 101]
def g61c4 : List Nat := [114, 101, 99, 101, 105, 118, 101]
def g61c5 : List (List Nat) := [g61c0, ([97, 110, 100] : List Nat), g61c1, ([98, 97, 110, 100] : List Nat), g61c2, ([98, 110, 111, 116] : List Nat), ([98, 111, 114] : List Nat), ([98, 115, 108] : List Nat), ([98, 115, 114] : List Nat), ([98, 120, 111, 114] : List Nat), ([99, 97, 115, 101] : List Nat), ([99, 97, 116, 99, 104] : List Nat), ([100, 105, 118] : List Nat), ([101, 110, 100] : List Nat), ([102, 117, 110] : List Nat), ([105, 102] : List Nat), ([110, 111, 116] : List Nat), ([111, 102] : List Nat), ([111, 114] : List Nat), g61c3, g61c4, ([114, 101, 109] : List Nat), ([119, 104, 101, 110] : List Nat), ([120, 111, 114] : List Nat)]
noncomputable def g61p0 : Pt := nav [0] (bodyAt Try.f61)
noncomputable def g61p1 : Pt := nav [0, 0, 0] g61p0
noncomputable def g61p2 : Pt := nav [0, 0, 0, 0] g61p1
noncomputable def g61p3 : Pt := nav [0, 0, 0, 0] g61p2
noncomputable def g61p4 : Pt := nav [0, 0, 0] g61p3
noncomputable def g61p5 : Pt := nav [0, 0] g61p4
noncomputable def g61p6 : Pt := nav [1, 0, 0, 0, 0] g61p5
noncomputable def g61p7 : Pt := nav [2, 0, 0] g61p5
noncomputable def g61p8 : Pt := nav [0, 0] g61p6
noncomputable def g61p10 : Pt := nav [1, 0] g61p8
noncomputable def g61p11 : Pt := nav [2, 0] g61p8
noncomputable def g61_l1 (k : Nat)  (a0 : (List Nat)) (n : Nat) : Int → Option Bool :=
  Nat.rec (motive := fun _ => Int → Option Bool) (fun _ => none) (fun _ ih => fun (y1_0 : Int) => if (decide (y1_0 < (g61c5.length : Int))) then ((nthL g61c5 y1_0).bind fun x0_2 => if (eqL x0_2 a0) then (some true) else (ih (fwrap .i64 (y1_0 + 1)))) else (some false)) n
theorem g61_l1_s (k : Nat)  (a0 : (List Nat)) (n : Nat) (y1_0 : Int) : g61_l1 k a0 (n + 1) y1_0 = (if (decide (y1_0 < (g61c5.length : Int))) then ((nthL g61c5 y1_0).bind fun x0_2 => if (eqL x0_2 a0) then (some true) else ((g61_l1 k a0 n) (fwrap .i64 (y1_0 + 1)))) else (some false)) := rfl
theorem g61_l1_ok (k : Nat)  (a0 : (List Nat))  : ∀ (n : Nat) (y1_0 : Int), Ok X61 g61p3 [(0, .str a0), (3, .vec (g61c5).length 1 ((g61c5).flatMap e9)), (4, .int .i64 y1_0)] (mkH []) (g61_l1 k a0 n y1_0)
  | 0, _ => ok_none
  | n + 1, y1_0 => by
    have ih := g61_l1_ok k a0 n
    rw [g61_l1_s]
    refine ok_ent (p' := nav [0] g61p3) (by kernel_rfl) ?_
    refine ok_run 8 (p' := g61p5) (env' := [(9, .bool (decide (y1_0 < (g61c5.length : Int)))), (8, .int .i64 (g61c5.length : Int)), (7, .vec (g61c5).length 1 ((g61c5).flatMap e9)), (6, .int .i64 y1_0), (0, .str a0), (3, .vec (g61c5).length 1 ((g61c5).flatMap e9)), (4, .int .i64 y1_0)]) (H' := (mkH [])) (by kernel_rfl) ?_
    refine ok_split 9 (b := decide (y1_0 < (g61c5.length : Int))) (by kernel_rfl) (fun hb => ?_) (fun hb => ?_)
    · refine ok_run 8 (p' := (atN 2 (ctl1 g61p6))) (env' := [(13, .int .i64 y1_0), (12, .vec (g61c5).length 1 ((g61c5).flatMap e9)), (9, .bool true), (9, .bool (decide (y1_0 < (g61c5.length : Int)))), (8, .int .i64 (g61c5.length : Int)), (7, .vec (g61c5).length 1 ((g61c5).flatMap e9)), (6, .int .i64 y1_0), (0, .str a0), (3, .vec (g61c5).length 1 ((g61c5).flatMap e9)), (4, .int .i64 y1_0)]) (H' := (mkH [])) (by kernel_rfl) ?_
      refine ok_chk (fun (x0_2 : (List Nat)) => (.vptr [.str x0_2], (mkH []))) (atN 3 (ctl1 g61p6)) (fun x0_2 => [(14, .vptr [.str x0_2]), (13, .int .i64 y1_0), (12, .vec (g61c5).length 1 ((g61c5).flatMap e9)), (9, .bool true), (9, .bool (decide (y1_0 < (g61c5.length : Int)))), (8, .int .i64 (g61c5.length : Int)), (7, .vec (g61c5).length 1 ((g61c5).flatMap e9)), (6, .int .i64 y1_0), (0, .str a0), (3, .vec (g61c5).length 1 ((g61c5).flatMap e9)), (4, .int .i64 y1_0)]) (vidxH (sz := 1) e9_len (by kernel_rfl)) (fun _ => by kernel_rfl) (fun x0_2 hx0_2 => ?_)
      refine ok_run 4 (p' := g61p8) (env' := [(17, .bool (eqL x0_2 a0)), (16, .str a0), (15, .str x0_2), (14, .vptr [.str x0_2]), (13, .int .i64 y1_0), (12, .vec (g61c5).length 1 ((g61c5).flatMap e9)), (9, .bool true), (9, .bool (decide (y1_0 < (g61c5.length : Int)))), (8, .int .i64 (g61c5.length : Int)), (7, .vec (g61c5).length 1 ((g61c5).flatMap e9)), (6, .int .i64 y1_0), (0, .str a0), (3, .vec (g61c5).length 1 ((g61c5).flatMap e9)), (4, .int .i64 y1_0)]) (H' := (mkH [])) (by kernel_rfl) ?_
      refine ok_split 17 (b := eqL x0_2 a0) (by kernel_rfl) (fun hb => ?_) (fun hb => ?_)
      · refine ok_run 6 (p' := .fin) (env' := [(2, .bool true), (17, .bool true), (17, .bool (eqL x0_2 a0)), (16, .str a0), (15, .str x0_2), (14, .vptr [.str x0_2]), (13, .int .i64 y1_0), (12, .vec (g61c5).length 1 ((g61c5).flatMap e9)), (9, .bool true), (9, .bool (decide (y1_0 < (g61c5.length : Int)))), (8, .int .i64 (g61c5.length : Int)), (7, .vec (g61c5).length 1 ((g61c5).flatMap e9)), (6, .int .i64 y1_0), (0, .str a0), (3, .vec (g61c5).length 1 ((g61c5).flatMap e9)), (4, .int .i64 y1_0)]) (H' := (mkH [])) (by kernel_rfl) ?_
        exact ok_ret (r := true) (xs := [.bool true]) (v := .bool true) (by kernel_rfl) (by kernel_rfl) (by kernel_rfl) (.pures (by kernel_rfl)) (by kernel_rfl)
      · refine ok_run 7 (p' := g61p3) (env' := [(4, .int .i64 (fwrap .i64 (y1_0 + 1))), (11, .int .i64 (fwrap .i64 (y1_0 + 1))), (10, .int .i64 y1_0), (17, .bool false), (17, .bool (eqL x0_2 a0)), (16, .str a0), (15, .str x0_2), (14, .vptr [.str x0_2]), (13, .int .i64 y1_0), (12, .vec (g61c5).length 1 ((g61c5).flatMap e9)), (9, .bool true), (9, .bool (decide (y1_0 < (g61c5.length : Int)))), (8, .int .i64 (g61c5.length : Int)), (7, .vec (g61c5).length 1 ((g61c5).flatMap e9)), (6, .int .i64 y1_0), (0, .str a0), (3, .vec (g61c5).length 1 ((g61c5).flatMap e9)), (4, .int .i64 y1_0)]) (H' := (mkH [])) (by kernel_rfl) ?_
        refine ok_keep [0, 3, 4] (env' := [(0, .str a0), (3, .vec (g61c5).length 1 ((g61c5).flatMap e9)), (4, .int .i64 (fwrap .i64 (y1_0 + 1)))]) (by kernel_rfl) ?_
        exact ih (fwrap .i64 (y1_0 + 1))
    · refine ok_run 7 (p' := .fin) (env' := [(2, .bool false), (9, .bool false), (9, .bool (decide (y1_0 < (g61c5.length : Int)))), (8, .int .i64 (g61c5.length : Int)), (7, .vec (g61c5).length 1 ((g61c5).flatMap e9)), (6, .int .i64 y1_0), (0, .str a0), (3, .vec (g61c5).length 1 ((g61c5).flatMap e9)), (4, .int .i64 y1_0)]) (H' := (mkH [])) (by kernel_rfl) ?_
      exact ok_ret (r := false) (xs := [.bool false]) (v := .bool false) (by kernel_rfl) (by kernel_rfl) (by kernel_rfl) (.pures (by kernel_rfl)) (by kernel_rfl)
noncomputable def g61 (k : Nat) (a0 : (List Nat)) : Option Bool :=
  g61_l1 k a0 k 0
theorem g61_ok (k : Nat) (a0 : (List Nat)) (r : Bool) (h : g61 k a0 = some r) : PureOk Try.prog 61 [.str a0] (.bool r) := by
  refine pure_of X61 (fun _ => rfl) Try.func61 (by decide +kernel) (by kernel_rfl) (t := g61 k a0) ?_ h
  unfold g61
  refine ok_env (env' := [(0, .str a0)]) (by kernel_rfl) ?_
  refine ok_run 7 (p' := (atN 1 (ctl1 g61p1))) (env' := [(5, .slice 0 24 0 24 1), (2, .bool false), (0, .str a0)]) (H' := (mkH [⟨[.str g61c0, .str [97, 110, 100], .str g61c1, .str [98, 97, 110, 100], .str g61c2, .str [98, 110, 111, 116], .str [98, 111, 114], .str [98, 115, 108], .str [98, 115, 114], .str [98, 120, 111, 114], .str [99, 97, 115, 101], .str [99, 97, 116, 99, 104], .str [100, 105, 118], .str [101, 110, 100], .str [102, 117, 110], .str [105, 102], .str [110, 111, 116], .str [111, 102], .str [111, 114], .str g61c3, .str g61c4, .str [114, 101, 109], .str [119, 104, 101, 110], .str [120, 111, 114]], 0, false⟩])) (by kernel_rfl) ?_
  refine ok_frz [⟨[.str g61c0, .str [97, 110, 100], .str g61c1, .str [98, 97, 110, 100], .str g61c2, .str [98, 110, 111, 116], .str [98, 111, 114], .str [98, 115, 108], .str [98, 115, 114], .str [98, 120, 111, 114], .str [99, 97, 115, 101], .str [99, 97, 116, 99, 104], .str [100, 105, 118], .str [101, 110, 100], .str [102, 117, 110], .str [105, 102], .str [110, 111, 116], .str [111, 102], .str [111, 114], .str g61c3, .str g61c4, .str [114, 101, 109], .str [119, 104, 101, 110], .str [120, 111, 114]], 0, false⟩] 5 0 24 1 0 [.str g61c0, .str [97, 110, 100], .str g61c1, .str [98, 97, 110, 100], .str g61c2, .str [98, 110, 111, 116], .str [98, 111, 114], .str [98, 115, 108], .str [98, 115, 114], .str [98, 120, 111, 114], .str [99, 97, 115, 101], .str [99, 97, 116, 99, 104], .str [100, 105, 118], .str [101, 110, 100], .str [102, 117, 110], .str [105, 102], .str [110, 111, 116], .str [111, 102], .str [111, 114], .str g61c3, .str g61c4, .str [114, 101, 109], .str [119, 104, 101, 110], .str [120, 111, 114]] [0, 2] (env0 := [(0, .str a0), (2, .bool false)]) (by kernel_rfl) rfl (.inl (by kernel_rfl)) rfl rfl (by decide) (by kernel_rfl) (by kernel_rfl) (by kernel_rfl) ⟨.inl rfl, trivial⟩ ?_
  refine ok_env (env' := [(5, .vec (g61c5).length 1 ((g61c5).flatMap e9)), (0, .str a0), (2, .bool false)]) (by kernel_rfl) ?_
  refine ok_heap (H' := (mkH [⟨[], 0, false⟩])) (by kernel_rfl) ?_
  refine ok_run 9 (p' := g61p3) (env' := [(4, .int .i64 0), (3, .vec (g61c5).length 1 ((g61c5).flatMap e9)), (5, .vec (g61c5).length 1 ((g61c5).flatMap e9)), (0, .str a0), (2, .bool false)]) (H' := (mkH [⟨[], 0, false⟩])) (by kernel_rfl) ?_
  refine ok_keep [0, 3, 4] (env' := [(0, .str a0), (3, .vec (g61c5).length 1 ((g61c5).flatMap e9)), (4, .int .i64 0)]) (by kernel_rfl) ?_
  refine ok_cut [] [⟨[], 0, false⟩] (by kernel_rfl) rfl (by kernel_rfl) trivial ?_
  exact (g61_l1_ok k a0 k) 0
end Go.Proofs.Ytbmijiibfaacmaa.Am
