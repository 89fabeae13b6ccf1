/- Function 16, plain, and that the program computes it. Printed by gen.py. -/
import Derived.Test.YtnikdnchoahngaaTy
import Derived.Test.YtnikdnchoahngaaG14
import Derived.Test.YtnikdnchoahngaaG18
import Derived.Test.YtnikdnchoahngaaG20
set_option maxRecDepth 100000
set_option linter.unusedVariables false
namespace Go.Proofs.Ytnikdnchoahngaa.Am
open Go

/-! 16 galley/word.Plain -/
noncomputable def X16 : Fx Bool := ⟨Try.prog, cx, Try.f16, fun r => .bool r, 0, fun _ => H0, cxTi, cxOrd⟩
noncomputable def g16p0 : Pt := nav [0] (bodyAt Try.f16)
noncomputable def g16p1 : Pt := nav [0, 0, 0, 0] g16p0
noncomputable def g16p2 : Pt := nav [0, 0] g16p1
noncomputable def g16p3 : Pt := nav [1, 0] g16p2
noncomputable def g16p4 : Pt := nav [2, 0, 0, 0] g16p2
noncomputable def g16p6 : Pt := nav [0, 0, 0, 0] g16p4
noncomputable def g16p7 : Pt := nav [0, 0] g16p6
noncomputable def g16p8 : Pt := nav [0, 0, 0] g16p7
noncomputable def g16p9 : Pt := nav [1, 0, 0, 0, 0] g16p8
noncomputable def g16p10 : Pt := nav [2, 0, 0] g16p8
noncomputable def g16p11 : Pt := nav [0, 0, 0] g16p9
noncomputable def g16p12 : Pt := nav [0, 0] g16p11
noncomputable def g16p13 : Pt := nav [1, 0] g16p12
noncomputable def g16p14 : Pt := nav [2, 0] g16p12
noncomputable def g16_l3 (k : Nat)  (a0 : (List Nat)) (n : Nat) : Int → Option Bool :=
  Nat.rec (motive := fun _ => Int → Option Bool) (fun _ => none) (fun _ ih => fun (y3_0 : Int) => if (decide (y3_0 < (a0.length : Int))) then ((nthS a0 y3_0).bind fun x1_2 => (g18 k x1_2).bind fun x1_3 => if (!x1_3) then (some false) else (ih (fwrap .i64 (y3_0 + 1)))) else (some true)) n
theorem g16_l3_s (k : Nat)  (a0 : (List Nat)) (n : Nat) (y3_0 : Int) : g16_l3 k a0 (n + 1) y3_0 = (if (decide (y3_0 < (a0.length : Int))) then ((nthS a0 y3_0).bind fun x1_2 => (g18 k x1_2).bind fun x1_3 => if (!x1_3) then (some false) else ((g16_l3 k a0 n) (fwrap .i64 (y3_0 + 1)))) else (some true)) := rfl
theorem g16_l3_ok (k : Nat)  (a0 : (List Nat))  : ∀ (n : Nat) (y3_0 : Int), Ok X16 g16p6 [(0, .str a0), (17, .int .i64 (a0.length : Int)), (18, .int .i64 y3_0)] (mkH []) (g16_l3 k a0 n y3_0)
  | 0, _ => ok_none
  | n + 1, y3_0 => by
    have ih := g16_l3_ok k a0 n
    rw [g16_l3_s]
    refine ok_ent (p' := nav [0] g16p6) (by kernel_rfl) ?_
    refine ok_run 5 (p' := g16p8) (env' := [(19, .bool (decide (y3_0 < (a0.length : Int)))), (0, .str a0), (17, .int .i64 (a0.length : Int)), (18, .int .i64 y3_0)]) (H' := (mkH [])) (by kernel_rfl) ?_
    refine ok_split 19 (b := decide (y3_0 < (a0.length : Int))) (by kernel_rfl) (fun hb => ?_) (fun hb => ?_)
    · refine ok_run 13 (p' := (atN 2 (ctl1 g16p11))) (env' := [(22, .int .i64 y3_0), (21, .str a0), (3, .int .i64 y3_0), (20, .int .i64 y3_0), (19, .bool true), (19, .bool (decide (y3_0 < (a0.length : Int)))), (0, .str a0), (17, .int .i64 (a0.length : Int)), (18, .int .i64 y3_0)]) (H' := (mkH [])) (by kernel_rfl) ?_
      refine ok_chk (fun (x1_2 : Int) => (.int .u8 x1_2, (mkH []))) (atN 3 (ctl1 g16p11)) (fun x1_2 => [(23, .int .u8 x1_2), (22, .int .i64 y3_0), (21, .str a0), (3, .int .i64 y3_0), (20, .int .i64 y3_0), (19, .bool true), (19, .bool (decide (y3_0 < (a0.length : Int)))), (0, .str a0), (17, .int .i64 (a0.length : Int)), (18, .int .i64 y3_0)]) (idxH (by kernel_rfl)) (fun _ => by kernel_rfl) (fun x1_2 hx1_2 => ?_)
      refine ok_call (fun (x1_3 : Bool) => .bool x1_3) (atN 4 (ctl1 g16p11)) (fun x1_3 => [(24, .bool x1_3), (23, .int .u8 x1_2), (22, .int .i64 y3_0), (21, .str a0), (3, .int .i64 y3_0), (20, .int .i64 y3_0), (19, .bool true), (19, .bool (decide (y3_0 < (a0.length : Int)))), (0, .str a0), (17, .int .i64 (a0.length : Int)), (18, .int .i64 y3_0)]) (fi := 18) (args := [.int .u8 x1_2]) (by kernel_rfl) (by kernel_rfl) (fun _ => by kernel_rfl) (fun r h => g18_ok k x1_2 r h) (fun _ => by kernel_rfl) (fun x1_3 hx1_3 => ?_)
      refine ok_run 2 (p' := g16p12) (env' := [(25, .bool (!x1_3)), (24, .bool x1_3), (23, .int .u8 x1_2), (22, .int .i64 y3_0), (21, .str a0), (3, .int .i64 y3_0), (20, .int .i64 y3_0), (19, .bool true), (19, .bool (decide (y3_0 < (a0.length : Int)))), (0, .str a0), (17, .int .i64 (a0.length : Int)), (18, .int .i64 y3_0)]) (H' := (mkH [])) (by kernel_rfl) ?_
      refine ok_split 25 (b := !x1_3) (by kernel_rfl) (fun hb => ?_) (fun hb => ?_)
      · refine ok_run 6 (p' := .fin) (env' := [(2, .bool false), (25, .bool true), (25, .bool (!x1_3)), (24, .bool x1_3), (23, .int .u8 x1_2), (22, .int .i64 y3_0), (21, .str a0), (3, .int .i64 y3_0), (20, .int .i64 y3_0), (19, .bool true), (19, .bool (decide (y3_0 < (a0.length : Int)))), (0, .str a0), (17, .int .i64 (a0.length : Int)), (18, .int .i64 y3_0)]) (H' := (mkH [])) (by kernel_rfl) ?_
        exact ok_ret (r := false) (xs := [.bool false]) (v := .bool false) (by kernel_rfl) (by kernel_rfl) (by kernel_rfl) (.pures (by kernel_rfl)) (by kernel_rfl)
      · refine ok_run 6 (p' := g16p6) (env' := [(18, .int .i64 (fwrap .i64 (y3_0 + 1))), (26, .int .i64 (fwrap .i64 (y3_0 + 1))), (25, .bool false), (25, .bool (!x1_3)), (24, .bool x1_3), (23, .int .u8 x1_2), (22, .int .i64 y3_0), (21, .str a0), (3, .int .i64 y3_0), (20, .int .i64 y3_0), (19, .bool true), (19, .bool (decide (y3_0 < (a0.length : Int)))), (0, .str a0), (17, .int .i64 (a0.length : Int)), (18, .int .i64 y3_0)]) (H' := (mkH [])) (by kernel_rfl) ?_
        refine ok_keep [0, 17, 18] (env' := [(0, .str a0), (17, .int .i64 (a0.length : Int)), (18, .int .i64 (fwrap .i64 (y3_0 + 1)))]) (by kernel_rfl) ?_
        exact ih (fwrap .i64 (y3_0 + 1))
    · refine ok_run 7 (p' := .fin) (env' := [(2, .bool true), (19, .bool false), (19, .bool (decide (y3_0 < (a0.length : Int)))), (0, .str a0), (17, .int .i64 (a0.length : Int)), (18, .int .i64 y3_0)]) (H' := (mkH [])) (by kernel_rfl) ?_
      exact ok_ret (r := true) (xs := [.bool true]) (v := .bool true) (by kernel_rfl) (by kernel_rfl) (by kernel_rfl) (.pures (by kernel_rfl)) (by kernel_rfl)
noncomputable def g16 (k : Nat) (a0 : (List Nat)) : Option Bool :=
  jn (fun (z2 : Bool) => if z2 then (some false) else (g16_l3 k a0 k 0)) (fun j2 => if (eqL a0 []) then (j2 true) else ((nthS a0 0).bind fun x0_4 => (g20 k x0_4).bind fun x0_5 => if (!decide (x0_5 = 1)) then (j2 true) else ((g14 k a0).bind fun x0_10 => j2 x0_10)))
theorem g16_ok (k : Nat) (a0 : (List Nat)) (r : Bool) (h : g16 k a0 = some r) : PureOk Try.prog 16 [.str a0] (.bool r) := by
  refine pure_of X16 (fun _ => rfl) Try.func16 (by decide +kernel) (by kernel_rfl) (t := g16 k a0) ?_ h
  unfold g16
  refine ok_env (env' := [(0, .str a0)]) (by kernel_rfl) ?_
  refine ok_run 10 (p' := (atN 3 (ctl1 g16p1))) (env' := [(6, .bool (eqL a0 [])), (5, .bool (eqL a0 [])), (4, .str a0), (2, .bool false), (0, .str a0)]) (H' := (mkH [])) (by kernel_rfl) ?_
  refine ok_jn (f := fun (z2 : Bool) => if z2 then (some false) else (g16_l3 k a0 k 0)) g16p2 (fun (z2 : Bool) => [(0, .str a0), (15, .bool z2)]) (fun (z2 : Bool) => (mkH [])) (fun z2 => ?_) (fun j2 hj2 => ?_)
  · refine ok_split 15 (b := z2) (by kernel_rfl) (fun hb => ?_) (fun hb => ?_)
    · refine ok_run 6 (p' := .fin) (env' := [(2, .bool false), (15, .bool true), (0, .str a0), (15, .bool z2)]) (H' := (mkH [])) (by kernel_rfl) ?_
      exact ok_ret (r := false) (xs := [.bool false]) (v := .bool false) (by kernel_rfl) (by kernel_rfl) (by kernel_rfl) (.pures (by kernel_rfl)) (by kernel_rfl)
    · refine ok_run 11 (p' := g16p6) (env' := [(18, .int .i64 0), (17, .int .i64 (a0.length : Int)), (16, .str a0), (15, .bool false), (0, .str a0), (15, .bool z2)]) (H' := (mkH [])) (by kernel_rfl) ?_
      refine ok_keep [0, 17, 18] (env' := [(0, .str a0), (17, .int .i64 (a0.length : Int)), (18, .int .i64 0)]) (by kernel_rfl) ?_
      exact (g16_l3_ok k a0 k) 0
  · refine ok_split 6 (b := eqL a0 []) (by kernel_rfl) (fun hb => ?_) (fun hb => ?_)
    · refine ok_run 10 (p' := g16p2) (env' := [(15, .bool true), (14, .tuple []), (13, .tuple []), (12, .bool true), (11, .bool true), (10, .tuple []), (9, .tuple []), (8, .tuple []), (7, .tuple []), (6, .bool true), (6, .bool (eqL a0 [])), (5, .bool (eqL a0 [])), (4, .str a0), (2, .bool false), (0, .str a0)]) (H' := (mkH [])) (by kernel_rfl) ?_
      refine ok_keep [0, 15] (env' := [(0, .str a0), (15, .bool true)]) (by kernel_rfl) ?_
      exact hj2 true
    · refine ok_run 1 (p' := (atN 4 (ctl1 g16p1))) (env' := [(7, .str a0), (6, .bool false), (6, .bool (eqL a0 [])), (5, .bool (eqL a0 [])), (4, .str a0), (2, .bool false), (0, .str a0)]) (H' := (mkH [])) (by kernel_rfl) ?_
      refine ok_chk (fun (x0_4 : Int) => (.int .u8 x0_4, (mkH []))) (atN 5 (ctl1 g16p1)) (fun x0_4 => [(8, .int .u8 x0_4), (7, .str a0), (6, .bool false), (6, .bool (eqL a0 [])), (5, .bool (eqL a0 [])), (4, .str a0), (2, .bool false), (0, .str a0)]) (idxH (by kernel_rfl)) (fun _ => by kernel_rfl) (fun x0_4 hx0_4 => ?_)
      refine ok_call (fun (x0_5 : Int) => .int .i64 x0_5) (atN 6 (ctl1 g16p1)) (fun x0_5 => [(9, .int .i64 x0_5), (8, .int .u8 x0_4), (7, .str a0), (6, .bool false), (6, .bool (eqL a0 [])), (5, .bool (eqL a0 [])), (4, .str a0), (2, .bool false), (0, .str a0)]) (fi := 20) (args := [.int .u8 x0_4]) (by kernel_rfl) (by kernel_rfl) (fun _ => by kernel_rfl) (fun r h => g20_ok k x0_4 r h) (fun _ => by kernel_rfl) (fun x0_5 hx0_5 => ?_)
      refine ok_run 3 (p' := (atN 9 (ctl1 g16p1))) (env' := [(12, .bool (!decide (x0_5 = 1))), (11, .bool (!decide (x0_5 = 1))), (10, .bool (!decide (x0_5 = 1))), (9, .int .i64 x0_5), (8, .int .u8 x0_4), (7, .str a0), (6, .bool false), (6, .bool (eqL a0 [])), (5, .bool (eqL a0 [])), (4, .str a0), (2, .bool false), (0, .str a0)]) (H' := (mkH [])) (by kernel_rfl) ?_
      refine ok_split 12 (b := !decide (x0_5 = 1)) (by kernel_rfl) (fun hb => ?_) (fun hb => ?_)
      · refine ok_run 4 (p' := g16p2) (env' := [(15, .bool true), (14, .tuple []), (13, .tuple []), (12, .bool true), (12, .bool (!decide (x0_5 = 1))), (11, .bool (!decide (x0_5 = 1))), (10, .bool (!decide (x0_5 = 1))), (9, .int .i64 x0_5), (8, .int .u8 x0_4), (7, .str a0), (6, .bool false), (6, .bool (eqL a0 [])), (5, .bool (eqL a0 [])), (4, .str a0), (2, .bool false), (0, .str a0)]) (H' := (mkH [])) (by kernel_rfl) ?_
        refine ok_keep [0, 15] (env' := [(0, .str a0), (15, .bool true)]) (by kernel_rfl) ?_
        exact hj2 true
      · refine ok_run 1 (p' := (atN 10 (ctl1 g16p1))) (env' := [(13, .str a0), (12, .bool false), (12, .bool (!decide (x0_5 = 1))), (11, .bool (!decide (x0_5 = 1))), (10, .bool (!decide (x0_5 = 1))), (9, .int .i64 x0_5), (8, .int .u8 x0_4), (7, .str a0), (6, .bool false), (6, .bool (eqL a0 [])), (5, .bool (eqL a0 [])), (4, .str a0), (2, .bool false), (0, .str a0)]) (H' := (mkH [])) (by kernel_rfl) ?_
        refine ok_call (fun (x0_10 : Bool) => .bool x0_10) (atN 11 (ctl1 g16p1)) (fun x0_10 => [(14, .bool x0_10), (13, .str a0), (12, .bool false), (12, .bool (!decide (x0_5 = 1))), (11, .bool (!decide (x0_5 = 1))), (10, .bool (!decide (x0_5 = 1))), (9, .int .i64 x0_5), (8, .int .u8 x0_4), (7, .str a0), (6, .bool false), (6, .bool (eqL a0 [])), (5, .bool (eqL a0 [])), (4, .str a0), (2, .bool false), (0, .str a0)]) (fi := 14) (args := [.str a0]) (by kernel_rfl) (by kernel_rfl) (fun _ => by kernel_rfl) (fun r h => g14_ok k a0 r h) (fun _ => by kernel_rfl) (fun x0_10 hx0_10 => ?_)
        refine ok_run 2 (p' := g16p2) (env' := [(15, .bool x0_10), (14, .bool x0_10), (13, .str a0), (12, .bool false), (12, .bool (!decide (x0_5 = 1))), (11, .bool (!decide (x0_5 = 1))), (10, .bool (!decide (x0_5 = 1))), (9, .int .i64 x0_5), (8, .int .u8 x0_4), (7, .str a0), (6, .bool false), (6, .bool (eqL a0 [])), (5, .bool (eqL a0 [])), (4, .str a0), (2, .bool false), (0, .str a0)]) (H' := (mkH [])) (by kernel_rfl) ?_
        refine ok_keep [0, 15] (env' := [(0, .str a0), (15, .bool x0_10)]) (by kernel_rfl) ?_
        exact hj2 x0_10
end Go.Proofs.Ytnikdnchoahngaa.Am
