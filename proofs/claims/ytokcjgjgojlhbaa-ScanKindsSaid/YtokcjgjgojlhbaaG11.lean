/- Function 11, plain, and that the program computes it. Printed by gen.py. -/
import Derived.Test.YtokcjgjgojlhbaaTy
import Derived.Test.YtokcjgjgojlhbaaG14
import Derived.Test.YtokcjgjgojlhbaaG16
import Derived.Test.YtokcjgjgojlhbaaG18
set_option maxRecDepth 100000
set_option linter.unusedVariables false
namespace Go.Proofs.Ytokcjgjgojlhbaa.Am
open Go

/-! 11 galley/scan.Scan -/
noncomputable def X11 : Fx ((List S28) × Int) := ⟨Try.prog, cx, Try.f11, fun r => .tuple [.vec (r.1).length 3 ((r.1).flatMap e29), .int .i64 r.2], 0, fun _ => H0, cxTi, cxOrd⟩
noncomputable def g11p0 : Pt := nav [0] (bodyAt Try.f11)
noncomputable def g11p1 : Pt := nav [0, 0, 0, 0, 0, 0] g11p0
noncomputable def g11p2 : Pt := nav [0, 0] g11p1
noncomputable def g11p3 : Pt := nav [1, 0] g11p2
noncomputable def g11p4 : Pt := nav [2, 0] g11p2
noncomputable def g11p6 : Pt := nav [0, 0] g11p4
noncomputable def g11p7 : Pt := nav [1, 0] g11p6
noncomputable def g11p8 : Pt := nav [2, 0, 0] g11p6
noncomputable def g11p9 : Pt := nav [0, 0, 0] g11p8
noncomputable def g11p10 : Pt := nav [0, 0, 0, 0, 0, 0] g11p9
noncomputable def g11p11 : Pt := nav [0, 0, 0] g11p10
noncomputable def g11p12 : Pt := nav [0, 0] g11p11
noncomputable def g11p13 : Pt := nav [1, 0] g11p12
noncomputable def g11p14 : Pt := nav [2, 0, 0] g11p12
noncomputable def g11p15 : Pt := nav [0, 0, 0, 0] g11p14
noncomputable def g11p16 : Pt := nav [0, 0] g11p15
noncomputable def g11p17 : Pt := nav [1, 0] g11p16
noncomputable def g11p18 : Pt := nav [2, 0, 0] g11p16
noncomputable def g11_l4 (k : Nat)  (a0 : (List Nat)) (n : Nat) : Int → (List S28) → Option ((List S28) × Int) :=
  Nat.rec (motive := fun _ => Int → (List S28) → Option ((List S28) × Int)) (fun _ _ => none) (fun _ ih => fun (y4_0 : Int) (y4_1 : (List S28)) => (g16 k a0 y4_0).bind fun x1_2 => if (decide (x1_2 = (a0.length : Int))) then (some (y4_1, (0 : Int))) else ((g14 k a0 x1_2).bind fun x2_2 => if (!decide (x2_2.2 = 0)) then (some (([] : List S28), x2_2.2)) else ((appS 32 y4_1 ([(⟨x2_2.1.f0, x2_2.1.f1, x2_2.1.f2⟩ : S28)] : List S28)).bind fun x3_3 => ih (fwrap .i64 (x1_2 + (x2_2.1.f1.length : Int))) x3_3))) n
theorem g11_l4_s (k : Nat)  (a0 : (List Nat)) (n : Nat) (y4_0 : Int) (y4_1 : (List S28)) : g11_l4 k a0 (n + 1) y4_0 y4_1 = ((g16 k a0 y4_0).bind fun x1_2 => if (decide (x1_2 = (a0.length : Int))) then (some (y4_1, (0 : Int))) else ((g14 k a0 x1_2).bind fun x2_2 => if (!decide (x2_2.2 = 0)) then (some (([] : List S28), x2_2.2)) else ((appS 32 y4_1 ([(⟨x2_2.1.f0, x2_2.1.f1, x2_2.1.f2⟩ : S28)] : List S28)).bind fun x3_3 => (g11_l4 k a0 n) (fwrap .i64 (x1_2 + (x2_2.1.f1.length : Int))) x3_3))) := rfl
theorem g11_l4_ok (k : Nat)  (a0 : (List Nat))  : ∀ (n : Nat) (y4_0 : Int) (y4_1 : (List S28)), Ok X11 g11p10 [(0, .str a0), (4, .own 0 (y4_1).length 3), (5, .int .i64 y4_0)] (mkH [⟨(y4_1).flatMap e29, 0, false⟩]) (g11_l4 k a0 n y4_0 y4_1)
  | 0, _, _ => ok_none
  | n + 1, y4_0, y4_1 => by
    have ih := g11_l4_ok k a0 n
    rw [g11_l4_s]
    let E5 : Env := [(17, .int .i64 y4_0), (16, .str a0), (0, .str a0), (4, .own 0 (y4_1).length 3), (5, .int .i64 y4_0)]
    refine ok_run 3 (p' := (atN 2 (ctl1 g11p10))) (env' := E5) (H' := (mkH [⟨(y4_1).flatMap e29, 0, false⟩])) (by kernel_rfl) ?_
    refine ok_call (fun (x1_2 : Int) => .int .i64 x1_2) (atN 3 (ctl1 g11p10)) (fun x1_2 => ((18, .int .i64 x1_2) :: E5)) (fi := 16) (args := [.str a0, .int .i64 y4_0]) (by kernel_rfl) (by kernel_rfl) (fun _ => by kernel_rfl) (fun r h => g16_ok k a0 y4_0 r h) (fun _ => by kernel_rfl) (fun x1_2 hx1_2 => ?_)
    let E6 : Env := ((22, .bool (decide (x1_2 = (a0.length : Int)))) :: (21, .int .i64 (a0.length : Int)) :: (20, .str a0) :: (19, .int .i64 x1_2) :: (5, .int .i64 x1_2) :: (18, .int .i64 x1_2) :: E5)
    refine ok_run 9 (p' := g11p12) (env' := E6) (H' := (mkH [⟨(y4_1).flatMap e29, 0, false⟩])) (by kernel_rfl) ?_
    refine ok_keep [0, 4, 5, 22] (env' := [(0, .str a0), (4, .own 0 (y4_1).length 3), (5, .int .i64 x1_2), (22, .bool (decide (x1_2 = (a0.length : Int))))]) (by kernel_rfl) ?_
    refine ok_split 22 (b := decide (x1_2 = (a0.length : Int))) (by kernel_rfl) (fun hb => ?_) (fun hb => ?_)
    · let E7 : Env := [(3, .int .i64 0), (2, .own 0 (y4_1).length 3), (23, .own 0 (y4_1).length 3), (22, .bool true), (0, .str a0), (4, .own 0 (y4_1).length 3), (5, .int .i64 x1_2), (22, .bool (decide (x1_2 = (a0.length : Int))))]
      refine ok_run 8 (p' := .fin) (env' := E7) (H' := (mkH [⟨(y4_1).flatMap e29, 0, false⟩])) (by kernel_rfl) ?_
      exact ok_ret (r := (y4_1, (0 : Int))) (xs := [.own 0 (y4_1).length 3, .int .i64 0]) (v := .tuple [.vec (y4_1).length 3 ((y4_1).flatMap e29), .int .i64 0]) (by kernel_rfl) (by kernel_rfl) (by kernel_rfl) (.tuple (fz_own e29_len e29_pur rfl rfl (.pures (by kernel_rfl))) (.pures (by kernel_rfl))) (by kernel_rfl)
    · let E8 : Env := [(26, .int .i64 x1_2), (25, .str a0), (22, .bool false), (0, .str a0), (4, .own 0 (y4_1).length 3), (5, .int .i64 x1_2), (22, .bool (decide (x1_2 = (a0.length : Int))))]
      refine ok_run 6 (p' := (atN 2 (ctl1 g11p14))) (env' := E8) (H' := (mkH [⟨(y4_1).flatMap e29, 0, false⟩])) (by kernel_rfl) ?_
      refine ok_call (fun (x2_2 : (S28 × Int)) => .tuple [.agg [.int .i64 x2_2.1.f0, .str x2_2.1.f1, .int .i64 x2_2.1.f2], .int .i64 x2_2.2]) (atN 3 (ctl1 g11p14)) (fun x2_2 => ((27, .tuple [.agg [.int .i64 x2_2.1.f0, .str x2_2.1.f1, .int .i64 x2_2.1.f2], .int .i64 x2_2.2]) :: E8)) (fi := 14) (args := [.str a0, .int .i64 x1_2]) (by kernel_rfl) (by kernel_rfl) (fun _ => by kernel_rfl) (fun r h => g14_ok k a0 x1_2 r h) (fun _ => by kernel_rfl) (fun x2_2 hx2_2 => ?_)
      let E9 : Env := ((7, .int .i64 x2_2.2) :: (6, .ptr 1 3 0) :: (29, .int .i64 x2_2.2) :: (28, .agg [.int .i64 x2_2.1.f0, .str x2_2.1.f1, .int .i64 x2_2.1.f2]) :: (24, .tuple [.agg [.int .i64 x2_2.1.f0, .str x2_2.1.f1, .int .i64 x2_2.1.f2], .int .i64 x2_2.2]) :: (27, .tuple [.agg [.int .i64 x2_2.1.f0, .str x2_2.1.f1, .int .i64 x2_2.1.f2], .int .i64 x2_2.2]) :: E8)
      refine ok_run 9 (p' := g11p15) (env' := E9) (H' := (mkH [⟨(y4_1).flatMap e29, 0, false⟩, ⟨[.int .i64 x2_2.1.f0, .str x2_2.1.f1, .int .i64 x2_2.1.f2], 3, false⟩])) (by kernel_rfl) ?_
      refine ok_keep [0, 4, 5, 6, 7] (env' := [(0, .str a0), (4, .own 0 (y4_1).length 3), (5, .int .i64 x1_2), (6, .ptr 1 3 0), (7, .int .i64 x2_2.2)]) (by kernel_rfl) ?_
      let E10 : Env := [(31, .bool (!decide (x2_2.2 = 0))), (30, .int .i64 x2_2.2), (0, .str a0), (4, .own 0 (y4_1).length 3), (5, .int .i64 x1_2), (6, .ptr 1 3 0), (7, .int .i64 x2_2.2)]
      refine ok_run 4 (p' := g11p16) (env' := E10) (H' := (mkH [⟨(y4_1).flatMap e29, 0, false⟩, ⟨[.int .i64 x2_2.1.f0, .str x2_2.1.f1, .int .i64 x2_2.1.f2], 3, false⟩])) (by kernel_rfl) ?_
      refine ok_split 31 (b := !decide (x2_2.2 = 0)) (by kernel_rfl) (fun hb => ?_) (fun hb => ?_)
      · refine ok_run 8 (p' := .fin) (env' := ((3, .int .i64 x2_2.2) :: (2, .nils) :: (32, .int .i64 x2_2.2) :: (31, .bool true) :: E10)) (H' := (mkH [⟨(y4_1).flatMap e29, 0, false⟩, ⟨[.int .i64 x2_2.1.f0, .str x2_2.1.f1, .int .i64 x2_2.1.f2], 3, false⟩])) (by kernel_rfl) ?_
        exact ok_ret (r := (([] : List S28), x2_2.2)) (xs := [.nils, .int .i64 x2_2.2]) (v := .tuple [.vec 0 3 [], .int .i64 x2_2.2]) (by kernel_rfl) (by kernel_rfl) (by kernel_rfl) (.tuple (.nil (.pures (by kernel_rfl))) (.pures (by kernel_rfl))) (by kernel_rfl)
      · refine ok_run 3 (p' := g11p18) (env' := ((31, .bool false) :: E10)) (H' := (mkH [⟨(y4_1).flatMap e29, 0, false⟩, ⟨[.int .i64 x2_2.1.f0, .str x2_2.1.f1, .int .i64 x2_2.1.f2], 3, false⟩])) (by kernel_rfl) ?_
        refine ok_bind (fun x3_3 hx3_3 => ?_)
        let E11 : Env := [(35, .slice 2 3 0 1 3), (34, .agg [.int .i64 x2_2.1.f0, .str x2_2.1.f1, .int .i64 x2_2.1.f2]), (33, .own 0 (y4_1).length 3), (31, .bool false), (31, .bool (!decide (x2_2.2 = 0))), (30, .int .i64 x2_2.2), (0, .str a0), (4, .own 0 (y4_1).length 3), (5, .int .i64 x1_2), (6, .ptr 1 3 0), (7, .int .i64 x2_2.2)]
        let E12 : Env := ((5, .int .i64 (fwrap .i64 (x1_2 + (x2_2.1.f1.length : Int)))) :: (4, .own 0 (x3_3).length 3) :: (41, .int .i64 (fwrap .i64 (x1_2 + (x2_2.1.f1.length : Int)))) :: (40, .int .i64 (x2_2.1.f1.length : Int)) :: (39, .str x2_2.1.f1) :: (38, .ptr 1 3 1) :: (37, .int .i64 x1_2) :: (36, .own 0 (x3_3).length 3) :: E11)
        refine ok_draw (p' := nav [0] g11p18) (env' := E12) (H' := (mkH [⟨(x3_3).flatMap e29, 0, false⟩, ⟨[.int .i64 x2_2.1.f0, .str x2_2.1.f1, .int .i64 x2_2.1.f2], 3, false⟩, ⟨[.int .i64 x2_2.1.f0, .str x2_2.1.f1, .int .i64 x2_2.1.f2], 0, false⟩])) (hs := [(mkH [⟨(y4_1).flatMap e29, 0, false⟩, ⟨[.int .i64 x2_2.1.f0, .str x2_2.1.f1, .int .i64 x2_2.1.f2], 3, false⟩, ⟨[.int .i64 x2_2.1.f0, .str x2_2.1.f1, .int .i64 x2_2.1.f2], 0, false⟩]), (mkH [⟨(x3_3).flatMap e29, 0, false⟩, ⟨[.int .i64 x2_2.1.f0, .str x2_2.1.f1, .int .i64 x2_2.1.f2], 3, false⟩, ⟨[.int .i64 x2_2.1.f0, .str x2_2.1.f1, .int .i64 x2_2.1.f2], 0, false⟩])]) [(0, 0, 0), (0, 0, 0), (2, 0, 0), (7, 0, 0), (0, 0, 0), (0, 0, 0), (32, 0, 2), (96, 0, 0), (240, 0, 0), (15, 0, 0), (1023, 0, 0)] (by kernel_rfl) (by kernel_rfl) (by kernel_rfl) (opsD_run 3 (l' := (opsAt g11p18).toList.drop 3) (env' := E11) (H' := (mkH [⟨(y4_1).flatMap e29, 0, false⟩, ⟨[.int .i64 x2_2.1.f0, .str x2_2.1.f1, .int .i64 x2_2.1.f2], 3, false⟩, ⟨[.int .i64 x2_2.1.f0, .str x2_2.1.f1, .int .i64 x2_2.1.f2], 0, false⟩])) (hs := [(mkH [⟨(y4_1).flatMap e29, 0, false⟩, ⟨[.int .i64 x2_2.1.f0, .str x2_2.1.f1, .int .i64 x2_2.1.f2], 3, false⟩, ⟨[.int .i64 x2_2.1.f0, .str x2_2.1.f1, .int .i64 x2_2.1.f2], 0, false⟩])]) (by kernel_rfl) (opsD_chk (l' := (opsAt g11p18).toList.drop 4) (env' := ((36, .own 0 (x3_3).length 3) :: E11)) (hs := [(mkH [⟨(x3_3).flatMap e29, 0, false⟩, ⟨[.int .i64 x2_2.1.f0, .str x2_2.1.f1, .int .i64 x2_2.1.f2], 3, false⟩, ⟨[.int .i64 x2_2.1.f0, .str x2_2.1.f1, .int .i64 x2_2.1.f2], 0, false⟩])]) (x := x3_3) (fun (x3_3 : (List S28)) => (.own 0 (x3_3).length 3, (mkH [⟨(x3_3).flatMap e29, 0, false⟩, ⟨[.int .i64 x2_2.1.f0, .str x2_2.1.f1, .int .i64 x2_2.1.f2], 3, false⟩, ⟨[.int .i64 x2_2.1.f0, .str x2_2.1.f1, .int .i64 x2_2.1.f2], 0, false⟩]))) (appH (sz := 3) e29_len rfl e29_one [⟨(y4_1).flatMap e29, 0, false⟩, ⟨[.int .i64 x2_2.1.f0, .str x2_2.1.f1, .int .i64 x2_2.1.f2], 3, false⟩, ⟨[.int .i64 x2_2.1.f0, .str x2_2.1.f1, .int .i64 x2_2.1.f2], 0, false⟩] 0 32 y4_1 ([(⟨x2_2.1.f0, x2_2.1.f1, x2_2.1.f2⟩ : S28)] : List S28) rfl rfl (by kernel_rfl)) hx3_3 (by kernel_rfl) (opsD_run 7 (l' := (opsAt g11p18).toList.drop 11) (env' := E12) (H' := (mkH [⟨(x3_3).flatMap e29, 0, false⟩, ⟨[.int .i64 x2_2.1.f0, .str x2_2.1.f1, .int .i64 x2_2.1.f2], 3, false⟩, ⟨[.int .i64 x2_2.1.f0, .str x2_2.1.f1, .int .i64 x2_2.1.f2], 0, false⟩])) (hs := []) (by kernel_rfl) (.nil)))) (by kernel_rfl) (by kernel_rfl) (by kernel_rfl) ?_
        refine ok_run 5 (p' := g11p10) (env' := E12) (H' := (mkH [⟨(x3_3).flatMap e29, 0, false⟩, ⟨[.int .i64 x2_2.1.f0, .str x2_2.1.f1, .int .i64 x2_2.1.f2], 3, false⟩, ⟨[.int .i64 x2_2.1.f0, .str x2_2.1.f1, .int .i64 x2_2.1.f2], 0, false⟩])) (by kernel_rfl) ?_
        refine ok_keep [0, 4, 5] (env' := [(0, .str a0), (4, .own 0 (x3_3).length 3), (5, .int .i64 (fwrap .i64 (x1_2 + (x2_2.1.f1.length : Int))))]) (by kernel_rfl) ?_
        refine ok_cut [⟨(x3_3).flatMap e29, 0, false⟩] [⟨[.int .i64 x2_2.1.f0, .str x2_2.1.f1, .int .i64 x2_2.1.f2], 3, false⟩, ⟨[.int .i64 x2_2.1.f0, .str x2_2.1.f1, .int .i64 x2_2.1.f2], 0, false⟩] (by kernel_rfl) rfl (by kernel_rfl) ⟨(purs_belows _ (purs_flatMap e29_pur _)), trivial⟩ ?_
        exact ih (fwrap .i64 (x1_2 + (x2_2.1.f1.length : Int))) x3_3
noncomputable def g11 (k : Nat) (a0 : (List Nat)) : Option ((List S28) × Int) :=
  if (decide (65536 < (a0.length : Int))) then (some (([] : List S28), (3 : Int))) else ((g18 k a0).bind fun x0_1 => if (!x0_1) then (some (([] : List S28), (2 : Int))) else (g11_l4 k a0 k 0 ([] : List S28)))
theorem g11_ok (k : Nat) (a0 : (List Nat)) (r : ((List S28) × Int)) (h : g11 k a0 = some r) : PureOk Try.prog 11 [.str a0] (.tuple [.vec (r.1).length 3 ((r.1).flatMap e29), .int .i64 r.2]) := by
  refine pure_of X11 (fun _ => rfl) Try.func11 (by decide +kernel) (by kernel_rfl) (t := g11 k a0) ?_ h
  unfold g11
  refine ok_env (env' := [(0, .str a0)]) (by kernel_rfl) ?_
  let E1 : Env := [(8, .bool (decide (65536 < (a0.length : Int)))), (11, .bool (decide (65536 < (a0.length : Int)))), (10, .int .i64 (a0.length : Int)), (9, .str a0), (3, .int .i64 0), (2, .nils), (0, .str a0)]
  refine ok_run 15 (p' := g11p2) (env' := E1) (H' := (mkH [])) (by kernel_rfl) ?_
  refine ok_split 8 (b := decide (65536 < (a0.length : Int))) (by kernel_rfl) (fun hb => ?_) (fun hb => ?_)
  · refine ok_run 7 (p' := .fin) (env' := ((3, .int .i64 3) :: (2, .nils) :: (8, .bool true) :: E1)) (H' := (mkH [])) (by kernel_rfl) ?_
    exact ok_ret (r := (([] : List S28), (3 : Int))) (xs := [.nils, .int .i64 3]) (v := .tuple [.vec 0 3 [], .int .i64 3]) (by kernel_rfl) (by kernel_rfl) (by kernel_rfl) (.tuple (.nil (.pures (by kernel_rfl))) (.pures (by kernel_rfl))) (by kernel_rfl)
  · refine ok_run 4 (p' := (atN 1 (ctl1 g11p4))) (env' := ((13, .str a0) :: (8, .bool false) :: E1)) (H' := (mkH [])) (by kernel_rfl) ?_
    refine ok_call (fun (x0_1 : Bool) => .bool x0_1) (atN 2 (ctl1 g11p4)) (fun x0_1 => ((14, .bool x0_1) :: (13, .str a0) :: (8, .bool false) :: E1)) (fi := 18) (args := [.str a0]) (by kernel_rfl) (by kernel_rfl) (fun _ => by kernel_rfl) (fun r h => g18_ok k a0 r h) (fun _ => by kernel_rfl) (fun x0_1 hx0_1 => ?_)
    let E2 : Env := ((12, .bool (!x0_1)) :: (15, .bool (!x0_1)) :: (14, .bool x0_1) :: (13, .str a0) :: (8, .bool false) :: E1)
    refine ok_run 3 (p' := g11p6) (env' := E2) (H' := (mkH [])) (by kernel_rfl) ?_
    refine ok_keep [0, 12] (env' := [(0, .str a0), (12, .bool (!x0_1))]) (by kernel_rfl) ?_
    refine ok_split 12 (b := !x0_1) (by kernel_rfl) (fun hb => ?_) (fun hb => ?_)
    · let E3 : Env := [(3, .int .i64 2), (2, .nils), (12, .bool true), (0, .str a0), (12, .bool (!x0_1))]
      refine ok_run 7 (p' := .fin) (env' := E3) (H' := (mkH [])) (by kernel_rfl) ?_
      exact ok_ret (r := (([] : List S28), (2 : Int))) (xs := [.nils, .int .i64 2]) (v := .tuple [.vec 0 3 [], .int .i64 2]) (by kernel_rfl) (by kernel_rfl) (by kernel_rfl) (.tuple (.nil (.pures (by kernel_rfl))) (.pures (by kernel_rfl))) (by kernel_rfl)
    · refine ok_run 5 (p' := (atN 1 (ctl1 g11p8))) (env' := [(4, .nils), (12, .bool false), (0, .str a0), (12, .bool (!x0_1))]) (H' := (mkH [])) (by kernel_rfl) ?_
      refine ok_own [] 4 3 rfl (by kernel_rfl) ?_
      refine ok_env (env' := [(4, .own 0 (([] : List S28)).length 3), (4, .nils), (12, .bool false), (0, .str a0), (12, .bool (!x0_1))]) (by kernel_rfl) ?_
      refine ok_heap (H' := (mkH [⟨(([] : List S28)).flatMap e29, 0, false⟩])) (by kernel_rfl) ?_
      let E4 : Env := [(5, .int .i64 0), (4, .own 0 (([] : List S28)).length 3), (4, .nils), (12, .bool false), (0, .str a0), (12, .bool (!x0_1))]
      refine ok_run 9 (p' := g11p10) (env' := E4) (H' := (mkH [⟨(([] : List S28)).flatMap e29, 0, false⟩])) (by kernel_rfl) ?_
      refine ok_keep [0, 4, 5] (env' := [(0, .str a0), (4, .own 0 (([] : List S28)).length 3), (5, .int .i64 0)]) (by kernel_rfl) ?_
      exact (g11_l4_ok k a0 k) 0 ([] : List S28)
end Go.Proofs.Ytokcjgjgojlhbaa.Am
