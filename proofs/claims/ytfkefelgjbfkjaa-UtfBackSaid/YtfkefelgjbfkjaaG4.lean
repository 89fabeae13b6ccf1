/- Function 4, plain, and that the program computes it. Printed by gen.py. -/
import Derived.Test.YtfkefelgjbfkjaaTy
import Derived.Test.YtfkefelgjbfkjaaG12
import Derived.Test.YtfkefelgjbfkjaaG13
import Derived.Test.YtfkefelgjbfkjaaG15
import Derived.Test.YtfkefelgjbfkjaaG17
import Derived.Test.YtfkefelgjbfkjaaG19
set_option maxRecDepth 100000
set_option linter.unusedVariables false
namespace Go.Proofs.Ytfkefelgjbfkjaa.Am
open Go

/-! 4 galley/galleylaw1.UtfBack -/
noncomputable def X4 : Fx Bool := ⟨Try.prog, cx, Try.f4, fun r => .bool r, 0, fun _ => H0, cxTi, cxOrd⟩
noncomputable def g4p0 : Pt := nav [0] (bodyAt Try.f4)
noncomputable def g4p1 : Pt := nav [0, 0, 0, 0] g4p0
noncomputable def g4p2 : Pt := nav [0, 0] g4p1
noncomputable def g4p3 : Pt := nav [1, 0] g4p2
noncomputable def g4p4 : Pt := nav [2, 0, 0] g4p2
noncomputable def g4p6 : Pt := nav [0, 0, 0] g4p4
noncomputable def g4p7 : Pt := nav [0, 0, 0, 0] g4p6
noncomputable def g4p8 : Pt := nav [0, 0, 0, 0] g4p7
noncomputable def g4p9 : Pt := nav [0, 0, 0] g4p8
noncomputable def g4p10 : Pt := nav [0, 0] g4p9
noncomputable def g4p11 : Pt := nav [1, 0, 0, 0, 0] g4p10
noncomputable def g4p12 : Pt := nav [2, 0, 0] g4p10
noncomputable def g4p13 : Pt := nav [0, 0, 0] g4p11
noncomputable def g4p14 : Pt := nav [0, 0, 0, 0] g4p12
noncomputable def g4p15 : Pt := nav [0, 0, 0, 0] g4p13
noncomputable def g4p16 : Pt := nav [0, 0, 0, 0] g4p14
noncomputable def g4p17 : Pt := nav [0, 0] g4p15
noncomputable def g4p18 : Pt := nav [0, 0, 0] g4p16
noncomputable def g4p19 : Pt := nav [1, 0] g4p17
noncomputable def g4p20 : Pt := nav [2, 0, 0] g4p17
noncomputable def g4p21 : Pt := nav [0, 0] g4p18
noncomputable def g4p22 : Pt := nav [0, 0] g4p20
noncomputable def g4p23 : Pt := nav [1, 0, 0, 0, 0] g4p21
noncomputable def g4p24 : Pt := nav [2, 0, 0] g4p21
noncomputable def g4p25 : Pt := nav [1, 0] g4p22
noncomputable def g4p26 : Pt := nav [2, 0] g4p22
noncomputable def g4p27 : Pt := nav [0, 0, 0, 0] g4p23
noncomputable def g4p28 : Pt := nav [0, 0] g4p25
noncomputable def g4p29 : Pt := nav [0, 0] g4p27
noncomputable def g4p30 : Pt := nav [1, 0] g4p29
noncomputable def g4p31 : Pt := nav [2, 0] g4p29
noncomputable def g4p32 : Pt := nav [0, 0] g4p31
noncomputable def g4_l10 (k : Nat)   (n : Nat) : Int → Int → (List Nat) → (List Int) → Option Bool :=
  Nat.rec (motive := fun _ => Int → Int → (List Nat) → (List Int) → Option Bool) (fun _ _ _ _ => none) (fun _ ih => fun (y10_0 : Int) (y10_1 : Int) (y10_2 : (List Nat)) (y10_3 : (List Int)) => if (decide (y10_1 < (y10_3.length : Int))) then ((g13 k y10_2 y10_0).bind fun x5_2 => (idxO y10_3 y10_1).bind fun x6_3 => (getO y10_3 x6_3).bind fun x6_4 => jn (fun (z12 : Bool × Int × Int × (List Nat) × (List Int)) => if z12.1 then (some false) else (ih (fwrap .i64 (z12.2.1 + x5_2.2)) (fwrap .i64 (z12.2.2.1 + 1)) z12.2.2.2.1 z12.2.2.2.2)) (fun j12 => if (!decide (x5_2.1 = x6_4)) then (j12 (true, y10_0, y10_1, y10_2, y10_3)) else (if (decide (x5_2.2 < 1)) then (j12 (true, y10_0, y10_1, y10_2, y10_3)) else (if (decide (4 < x5_2.2)) then (j12 (true, y10_0, y10_1, y10_2, y10_3)) else (if (decide (fwrap .i64 ((y10_2.length : Int) - y10_0) < x5_2.2)) then (j12 (true, y10_0, y10_1, y10_2, y10_3)) else ((subL y10_2 (some y10_0) (some (fwrap .i64 (y10_0 + x5_2.2)))).bind fun x6_28 => j12 (!(eqL x6_28 (utf (fwrap .i32 x5_2.1))), y10_0, y10_1, y10_2, y10_3))))))) else ((g12 k).bind fun x7_0 => if x7_0 then (if (decide (y10_0 = (y10_2.length : Int))) then ((g15 k y10_2).bind fun x7_9 => if x7_9 then ((g17 k y10_2).bind fun x7_13 => some (decide (x7_13 = (y10_3.length : Int)))) else (some false)) else (some false)) else (some false))) n
theorem g4_l10_s (k : Nat)   (n : Nat) (y10_0 : Int) (y10_1 : Int) (y10_2 : (List Nat)) (y10_3 : (List Int)) : g4_l10 k (n + 1) y10_0 y10_1 y10_2 y10_3 = (if (decide (y10_1 < (y10_3.length : Int))) then ((g13 k y10_2 y10_0).bind fun x5_2 => (idxO y10_3 y10_1).bind fun x6_3 => (getO y10_3 x6_3).bind fun x6_4 => jn (fun (z12 : Bool × Int × Int × (List Nat) × (List Int)) => if z12.1 then (some false) else ((g4_l10 k n) (fwrap .i64 (z12.2.1 + x5_2.2)) (fwrap .i64 (z12.2.2.1 + 1)) z12.2.2.2.1 z12.2.2.2.2)) (fun j12 => if (!decide (x5_2.1 = x6_4)) then (j12 (true, y10_0, y10_1, y10_2, y10_3)) else (if (decide (x5_2.2 < 1)) then (j12 (true, y10_0, y10_1, y10_2, y10_3)) else (if (decide (4 < x5_2.2)) then (j12 (true, y10_0, y10_1, y10_2, y10_3)) else (if (decide (fwrap .i64 ((y10_2.length : Int) - y10_0) < x5_2.2)) then (j12 (true, y10_0, y10_1, y10_2, y10_3)) else ((subL y10_2 (some y10_0) (some (fwrap .i64 (y10_0 + x5_2.2)))).bind fun x6_28 => j12 (!(eqL x6_28 (utf (fwrap .i32 x5_2.1))), y10_0, y10_1, y10_2, y10_3))))))) else ((g12 k).bind fun x7_0 => if x7_0 then (if (decide (y10_0 = (y10_2.length : Int))) then ((g15 k y10_2).bind fun x7_9 => if x7_9 then ((g17 k y10_2).bind fun x7_13 => some (decide (x7_13 = (y10_3.length : Int)))) else (some false)) else (some false)) else (some false))) := rfl
theorem g4_l10_ok (k : Nat)    : ∀ (n : Nat) (y10_0 : Int) (y10_1 : Int) (y10_2 : (List Nat)) (y10_3 : (List Int)), Ok X4 g4p16 [(3, .str y10_2), (4, .own 0 (y10_3).length 1), (8, .int .i64 y10_0), (9, .int .i64 y10_1)] (mkH [⟨(y10_3).flatMap e3, 0, false⟩]) (g4_l10 k n y10_0 y10_1 y10_2 y10_3)
  | 0, _, _, _, _ => ok_none
  | n + 1, y10_0, y10_1, y10_2, y10_3 => by
    have ih := g4_l10_ok k n
    rw [g4_l10_s]
    refine ok_ent (p' := nav [0] g4p16) (by kernel_rfl) ?_
    let E18 : Env := [(57, .bool (decide (y10_1 < (y10_3.length : Int)))), (56, .int .i64 (y10_3.length : Int)), (55, .own 0 (y10_3).length 1), (54, .int .i64 y10_1), (3, .str y10_2), (4, .own 0 (y10_3).length 1), (8, .int .i64 y10_0), (9, .int .i64 y10_1)]
    refine ok_run 8 (p' := g4p21) (env' := E18) (H' := (mkH [⟨(y10_3).flatMap e3, 0, false⟩])) (by kernel_rfl) ?_
    refine ok_split 57 (b := decide (y10_1 < (y10_3.length : Int))) (by kernel_rfl) (fun hb => ?_) (fun hb => ?_)
    · refine ok_run 8 (p' := (atN 2 (ctl1 g4p23))) (env' := ((62, .int .i64 y10_0) :: (61, .str y10_2) :: (57, .bool true) :: E18)) (H' := (mkH [⟨(y10_3).flatMap e3, 0, false⟩])) (by kernel_rfl) ?_
      refine ok_call (fun (x5_2 : (Int × Int)) => .tuple [.int .i64 x5_2.1, .int .i64 x5_2.2]) (atN 3 (ctl1 g4p23)) (fun x5_2 => ((63, .tuple [.int .i64 x5_2.1, .int .i64 x5_2.2]) :: (62, .int .i64 y10_0) :: (61, .str y10_2) :: (57, .bool true) :: E18)) (fi := 13) (args := [.str y10_2, .int .i64 y10_0]) (by kernel_rfl) (by kernel_rfl) (fun _ => by kernel_rfl) (fun r h => g13_ok k y10_2 y10_0 r h) (fun _ => by kernel_rfl) (fun x5_2 hx5_2 => ?_)
      let E19 : Env := ((11, .int .i64 x5_2.2) :: (10, .int .i64 x5_2.1) :: (65, .int .i64 x5_2.2) :: (64, .int .i64 x5_2.1) :: (60, .tuple [.int .i64 x5_2.1, .int .i64 x5_2.2]) :: (63, .tuple [.int .i64 x5_2.1, .int .i64 x5_2.2]) :: (62, .int .i64 y10_0) :: (61, .str y10_2) :: (57, .bool true) :: E18)
      refine ok_run 8 (p' := g4p27) (env' := E19) (H' := (mkH [⟨(y10_3).flatMap e3, 0, false⟩])) (by kernel_rfl) ?_
      refine ok_keep [3, 4, 8, 9, 10, 11] (env' := [(3, .str y10_2), (4, .own 0 (y10_3).length 1), (8, .int .i64 y10_0), (9, .int .i64 y10_1), (10, .int .i64 x5_2.1), (11, .int .i64 x5_2.2)]) (by kernel_rfl) ?_
      let E20 : Env := [(68, .int .i64 y10_1), (67, .own 0 (y10_3).length 1), (66, .int .i64 x5_2.1), (3, .str y10_2), (4, .own 0 (y10_3).length 1), (8, .int .i64 y10_0), (9, .int .i64 y10_1), (10, .int .i64 x5_2.1), (11, .int .i64 x5_2.2)]
      refine ok_run 4 (p' := (atN 3 (ctl1 g4p27))) (env' := E20) (H' := (mkH [⟨(y10_3).flatMap e3, 0, false⟩])) (by kernel_rfl) ?_
      refine ok_chk (fun (x6_3 : Nat) => (.ptr 0 ((y10_3).length * 1) (x6_3 * 1), (mkH [⟨(y10_3).flatMap e3, 0, false⟩]))) (atN 4 (ctl1 g4p27)) (fun x6_3 => ((69, .ptr 0 ((y10_3).length * 1) (x6_3 * 1)) :: E20)) (oidxH (sz := 1) (by kernel_rfl)) (fun _ => by kernel_rfl) (fun x6_3 hx6_3 => ?_)
      refine ok_chk (fun (x6_4 : Int) => (.int .i64 x6_4, (mkH [⟨(y10_3).flatMap e3, 0, false⟩]))) (atN 5 (ctl1 g4p27)) (fun x6_4 => ((70, .int .i64 x6_4) :: (69, .ptr 0 ((y10_3).length * 1) (x6_3 * 1)) :: E20)) (oloadH (v := v3) (fun _ => rfl) [⟨(y10_3).flatMap e3, 0, false⟩] 0 _ rfl rfl (by first | exact Nat.le_refl _ | exact Nat.zero_le _) (by kernel_rfl)) (fun _ => by kernel_rfl) (fun x6_4 hx6_4 => ?_)
      refine ok_run 2 (p' := (atN 7 (ctl1 g4p27))) (env' := ((72, .bool (!decide (x5_2.1 = x6_4))) :: (71, .bool (!decide (x5_2.1 = x6_4))) :: (70, .int .i64 x6_4) :: (69, .ptr 0 ((y10_3).length * 1) (x6_3 * 1)) :: E20)) (H' := (mkH [⟨(y10_3).flatMap e3, 0, false⟩])) (by kernel_rfl) ?_
      refine ok_jn (f := fun (z12 : Bool × Int × Int × (List Nat) × (List Int)) => if z12.1 then (some false) else ((g4_l10 k n) (fwrap .i64 (z12.2.1 + x5_2.2)) (fwrap .i64 (z12.2.2.1 + 1)) z12.2.2.2.1 z12.2.2.2.2)) g4p29 (fun (z12 : Bool × Int × Int × (List Nat) × (List Int)) => [(3, .str z12.2.2.2.1), (4, .own 0 (z12.2.2.2.2).length 1), (8, .int .i64 z12.2.1), (9, .int .i64 z12.2.2.1), (11, .int .i64 x5_2.2), (99, .bool z12.1)]) (fun (z12 : Bool × Int × Int × (List Nat) × (List Int)) => (mkH [⟨(z12.2.2.2.2).flatMap e3, 0, false⟩])) (fun z12 => ?_) (fun j12 hj12 => ?_)
      · refine ok_split 99 (b := z12.1) (by kernel_rfl) (fun hb => ?_) (fun hb => ?_)
        · let E21 : Env := [(2, .bool false), (99, .bool true), (3, .str z12.2.2.2.1), (4, .own 0 (z12.2.2.2.2).length 1), (8, .int .i64 z12.2.1), (9, .int .i64 z12.2.2.1), (11, .int .i64 x5_2.2), (99, .bool z12.1)]
          refine ok_run 6 (p' := .fin) (env' := E21) (H' := (mkH [⟨(z12.2.2.2.2).flatMap e3, 0, false⟩])) (by kernel_rfl) ?_
          exact ok_ret (r := false) (xs := [.bool false]) (v := .bool false) (by kernel_rfl) (by kernel_rfl) (by kernel_rfl) (.pures (by kernel_rfl)) (by kernel_rfl)
        · let E22 : Env := [(8, .int .i64 (fwrap .i64 (z12.2.1 + x5_2.2))), (102, .int .i64 (fwrap .i64 (z12.2.1 + x5_2.2))), (101, .int .i64 x5_2.2), (100, .int .i64 z12.2.1), (99, .bool false), (3, .str z12.2.2.2.1), (4, .own 0 (z12.2.2.2.2).length 1), (8, .int .i64 z12.2.1), (9, .int .i64 z12.2.2.1), (11, .int .i64 x5_2.2), (99, .bool z12.1)]
          refine ok_run 8 (p' := g4p32) (env' := E22) (H' := (mkH [⟨(z12.2.2.2.2).flatMap e3, 0, false⟩])) (by kernel_rfl) ?_
          refine ok_keep [3, 4, 8, 9] (env' := [(3, .str z12.2.2.2.1), (4, .own 0 (z12.2.2.2.2).length 1), (8, .int .i64 (fwrap .i64 (z12.2.1 + x5_2.2))), (9, .int .i64 z12.2.2.1)]) (by kernel_rfl) ?_
          let E23 : Env := [(9, .int .i64 (fwrap .i64 (z12.2.2.1 + 1))), (59, .int .i64 (fwrap .i64 (z12.2.2.1 + 1))), (58, .int .i64 z12.2.2.1), (3, .str z12.2.2.2.1), (4, .own 0 (z12.2.2.2.2).length 1), (8, .int .i64 (fwrap .i64 (z12.2.1 + x5_2.2))), (9, .int .i64 z12.2.2.1)]
          refine ok_run 5 (p' := g4p16) (env' := E23) (H' := (mkH [⟨(z12.2.2.2.2).flatMap e3, 0, false⟩])) (by kernel_rfl) ?_
          refine ok_keep [3, 4, 8, 9] (env' := [(3, .str z12.2.2.2.1), (4, .own 0 (z12.2.2.2.2).length 1), (8, .int .i64 (fwrap .i64 (z12.2.1 + x5_2.2))), (9, .int .i64 (fwrap .i64 (z12.2.2.1 + 1)))]) (by kernel_rfl) ?_
          exact ih (fwrap .i64 (z12.2.1 + x5_2.2)) (fwrap .i64 (z12.2.2.1 + 1)) z12.2.2.2.1 z12.2.2.2.2
      · refine ok_split 72 (b := !decide (x5_2.1 = x6_4)) (by kernel_rfl) (fun hb => ?_) (fun hb => ?_)
        · let E24 : Env := ((99, .bool true) :: (98, .tuple []) :: (97, .tuple []) :: (96, .tuple []) :: (95, .tuple []) :: (94, .tuple []) :: (93, .tuple []) :: (92, .tuple []) :: (91, .tuple []) :: (90, .tuple []) :: (89, .tuple []) :: (88, .bool true) :: (87, .bool true) :: (86, .tuple []) :: (85, .tuple []) :: (84, .tuple []) :: (83, .tuple []) :: (82, .tuple []) :: (81, .tuple []) :: (80, .bool true) :: (79, .bool true) :: (78, .tuple []) :: (77, .tuple []) :: (76, .bool true) :: (75, .bool true) :: (74, .tuple []) :: (73, .tuple []) :: (72, .bool true) :: (72, .bool (!decide (x5_2.1 = x6_4))) :: (71, .bool (!decide (x5_2.1 = x6_4))) :: (70, .int .i64 x6_4) :: (69, .ptr 0 ((y10_3).length * 1) (x6_3 * 1)) :: E20)
          refine ok_run 28 (p' := g4p29) (env' := E24) (H' := (mkH [⟨(y10_3).flatMap e3, 0, false⟩])) (by kernel_rfl) ?_
          refine ok_keep [3, 4, 8, 9, 11, 99] (env' := [(3, .str y10_2), (4, .own 0 (y10_3).length 1), (8, .int .i64 y10_0), (9, .int .i64 y10_1), (11, .int .i64 x5_2.2), (99, .bool true)]) (by kernel_rfl) ?_
          exact hj12 (true, y10_0, y10_1, y10_2, y10_3)
        · let E25 : Env := ((76, .bool (decide (x5_2.2 < 1))) :: (75, .bool (decide (x5_2.2 < 1))) :: (74, .bool (decide (x5_2.2 < 1))) :: (73, .int .i64 x5_2.2) :: (72, .bool false) :: (72, .bool (!decide (x5_2.1 = x6_4))) :: (71, .bool (!decide (x5_2.1 = x6_4))) :: (70, .int .i64 x6_4) :: (69, .ptr 0 ((y10_3).length * 1) (x6_3 * 1)) :: E20)
          refine ok_run 4 (p' := (atN 11 (ctl1 g4p27))) (env' := E25) (H' := (mkH [⟨(y10_3).flatMap e3, 0, false⟩])) (by kernel_rfl) ?_
          refine ok_split 76 (b := decide (x5_2.2 < 1)) (by kernel_rfl) (fun hb => ?_) (fun hb => ?_)
          · let E26 : Env := ((99, .bool true) :: (98, .tuple []) :: (97, .tuple []) :: (96, .tuple []) :: (95, .tuple []) :: (94, .tuple []) :: (93, .tuple []) :: (92, .tuple []) :: (91, .tuple []) :: (90, .tuple []) :: (89, .tuple []) :: (88, .bool true) :: (87, .bool true) :: (86, .tuple []) :: (85, .tuple []) :: (84, .tuple []) :: (83, .tuple []) :: (82, .tuple []) :: (81, .tuple []) :: (80, .bool true) :: (79, .bool true) :: (78, .tuple []) :: (77, .tuple []) :: (76, .bool true) :: E25)
            refine ok_run 24 (p' := g4p29) (env' := E26) (H' := (mkH [⟨(y10_3).flatMap e3, 0, false⟩])) (by kernel_rfl) ?_
            refine ok_keep [3, 4, 8, 9, 11, 99] (env' := [(3, .str y10_2), (4, .own 0 (y10_3).length 1), (8, .int .i64 y10_0), (9, .int .i64 y10_1), (11, .int .i64 x5_2.2), (99, .bool true)]) (by kernel_rfl) ?_
            exact hj12 (true, y10_0, y10_1, y10_2, y10_3)
          · let E27 : Env := ((80, .bool (decide (4 < x5_2.2))) :: (79, .bool (decide (4 < x5_2.2))) :: (78, .bool (decide (4 < x5_2.2))) :: (77, .int .i64 x5_2.2) :: (76, .bool false) :: E25)
            refine ok_run 4 (p' := (atN 15 (ctl1 g4p27))) (env' := E27) (H' := (mkH [⟨(y10_3).flatMap e3, 0, false⟩])) (by kernel_rfl) ?_
            refine ok_split 80 (b := decide (4 < x5_2.2)) (by kernel_rfl) (fun hb => ?_) (fun hb => ?_)
            · let E28 : Env := ((99, .bool true) :: (98, .tuple []) :: (97, .tuple []) :: (96, .tuple []) :: (95, .tuple []) :: (94, .tuple []) :: (93, .tuple []) :: (92, .tuple []) :: (91, .tuple []) :: (90, .tuple []) :: (89, .tuple []) :: (88, .bool true) :: (87, .bool true) :: (86, .tuple []) :: (85, .tuple []) :: (84, .tuple []) :: (83, .tuple []) :: (82, .tuple []) :: (81, .tuple []) :: (80, .bool true) :: E27)
              refine ok_run 20 (p' := g4p29) (env' := E28) (H' := (mkH [⟨(y10_3).flatMap e3, 0, false⟩])) (by kernel_rfl) ?_
              refine ok_keep [3, 4, 8, 9, 11, 99] (env' := [(3, .str y10_2), (4, .own 0 (y10_3).length 1), (8, .int .i64 y10_0), (9, .int .i64 y10_1), (11, .int .i64 x5_2.2), (99, .bool true)]) (by kernel_rfl) ?_
              exact hj12 (true, y10_0, y10_1, y10_2, y10_3)
            · let E29 : Env := ((88, .bool (decide (fwrap .i64 ((y10_2.length : Int) - y10_0) < x5_2.2))) :: (87, .bool (decide (fwrap .i64 ((y10_2.length : Int) - y10_0) < x5_2.2))) :: (86, .bool (decide (fwrap .i64 ((y10_2.length : Int) - y10_0) < x5_2.2))) :: (85, .int .i64 x5_2.2) :: (84, .int .i64 (fwrap .i64 ((y10_2.length : Int) - y10_0))) :: (83, .int .i64 y10_0) :: (82, .int .i64 (y10_2.length : Int)) :: (81, .str y10_2) :: (80, .bool false) :: E27)
              refine ok_run 8 (p' := (atN 23 (ctl1 g4p27))) (env' := E29) (H' := (mkH [⟨(y10_3).flatMap e3, 0, false⟩])) (by kernel_rfl) ?_
              refine ok_split 88 (b := decide (fwrap .i64 ((y10_2.length : Int) - y10_0) < x5_2.2)) (by kernel_rfl) (fun hb => ?_) (fun hb => ?_)
              · let E30 : Env := ((99, .bool true) :: (98, .tuple []) :: (97, .tuple []) :: (96, .tuple []) :: (95, .tuple []) :: (94, .tuple []) :: (93, .tuple []) :: (92, .tuple []) :: (91, .tuple []) :: (90, .tuple []) :: (89, .tuple []) :: (88, .bool true) :: E29)
                refine ok_run 12 (p' := g4p29) (env' := E30) (H' := (mkH [⟨(y10_3).flatMap e3, 0, false⟩])) (by kernel_rfl) ?_
                refine ok_keep [3, 4, 8, 9, 11, 99] (env' := [(3, .str y10_2), (4, .own 0 (y10_3).length 1), (8, .int .i64 y10_0), (9, .int .i64 y10_1), (11, .int .i64 x5_2.2), (99, .bool true)]) (by kernel_rfl) ?_
                exact hj12 (true, y10_0, y10_1, y10_2, y10_3)
              · let E31 : Env := ((93, .int .i64 (fwrap .i64 (y10_0 + x5_2.2))) :: (92, .int .i64 x5_2.2) :: (91, .int .i64 y10_0) :: (90, .int .i64 y10_0) :: (89, .str y10_2) :: (88, .bool false) :: E29)
                refine ok_run 5 (p' := (atN 28 (ctl1 g4p27))) (env' := E31) (H' := (mkH [⟨(y10_3).flatMap e3, 0, false⟩])) (by kernel_rfl) ?_
                refine ok_chk (fun (x6_28 : (List Nat)) => (.str x6_28, (mkH [⟨(y10_3).flatMap e3, 0, false⟩]))) (atN 29 (ctl1 g4p27)) (fun x6_28 => ((94, .str x6_28) :: E31)) (subH (some y10_0) (some (fwrap .i64 (y10_0 + x5_2.2))) (by kernel_rfl)) (fun _ => by kernel_rfl) (fun x6_28 hx6_28 => ?_)
                let E32 : Env := ((99, .bool (!(eqL x6_28 (utf (fwrap .i32 x5_2.1))))) :: (98, .bool (!(eqL x6_28 (utf (fwrap .i32 x5_2.1))))) :: (97, .str (utf (fwrap .i32 x5_2.1))) :: (96, .int .i32 (fwrap .i32 x5_2.1)) :: (95, .int .i64 x5_2.1) :: (94, .str x6_28) :: E31)
                refine ok_run 6 (p' := g4p29) (env' := E32) (H' := (mkH [⟨(y10_3).flatMap e3, 0, false⟩])) (by kernel_rfl) ?_
                refine ok_keep [3, 4, 8, 9, 11, 99] (env' := [(3, .str y10_2), (4, .own 0 (y10_3).length 1), (8, .int .i64 y10_0), (9, .int .i64 y10_1), (11, .int .i64 x5_2.2), (99, .bool (!(eqL x6_28 (utf (fwrap .i32 x5_2.1)))))]) (by kernel_rfl) ?_
                exact hj12 (!(eqL x6_28 (utf (fwrap .i32 x5_2.1))), y10_0, y10_1, y10_2, y10_3)
    · refine ok_run 4 (p' := (atN 0 (ctl1 g4p24))) (env' := ((57, .bool false) :: E18)) (H' := (mkH [⟨(y10_3).flatMap e3, 0, false⟩])) (by kernel_rfl) ?_
      refine ok_call (fun (x7_0 : Bool) => .bool x7_0) (atN 1 (ctl1 g4p24)) (fun x7_0 => ((103, .bool x7_0) :: (57, .bool false) :: E18)) (fi := 12) (args := []) (by kernel_rfl) (by kernel_rfl) (fun _ => by kernel_rfl) (fun r h => g12_ok k  r h) (fun _ => by kernel_rfl) (fun x7_0 hx7_0 => ?_)
      refine ok_run 1 (p' := (atN 2 (ctl1 g4p24))) (env' := ((104, .bool x7_0) :: (103, .bool x7_0) :: (57, .bool false) :: E18)) (H' := (mkH [⟨(y10_3).flatMap e3, 0, false⟩])) (by kernel_rfl) ?_
      refine ok_split 104 (b := x7_0) (by kernel_rfl) (fun hb => ?_) (fun hb => ?_)
      · let E33 : Env := ((110, .bool (decide (y10_0 = (y10_2.length : Int)))) :: (109, .bool (decide (y10_0 = (y10_2.length : Int)))) :: (108, .bool (decide (y10_0 = (y10_2.length : Int)))) :: (107, .int .i64 (y10_2.length : Int)) :: (106, .str y10_2) :: (105, .int .i64 y10_0) :: (104, .bool true) :: (104, .bool x7_0) :: (103, .bool x7_0) :: (57, .bool false) :: E18)
        refine ok_run 6 (p' := (atN 8 (ctl1 g4p24))) (env' := E33) (H' := (mkH [⟨(y10_3).flatMap e3, 0, false⟩])) (by kernel_rfl) ?_
        refine ok_split 110 (b := decide (y10_0 = (y10_2.length : Int))) (by kernel_rfl) (fun hb => ?_) (fun hb => ?_)
        · refine ok_run 1 (p' := (atN 9 (ctl1 g4p24))) (env' := ((111, .str y10_2) :: (110, .bool true) :: E33)) (H' := (mkH [⟨(y10_3).flatMap e3, 0, false⟩])) (by kernel_rfl) ?_
          refine ok_call (fun (x7_9 : Bool) => .bool x7_9) (atN 10 (ctl1 g4p24)) (fun x7_9 => ((112, .bool x7_9) :: (111, .str y10_2) :: (110, .bool true) :: E33)) (fi := 15) (args := [.str y10_2]) (by kernel_rfl) (by kernel_rfl) (fun _ => by kernel_rfl) (fun r h => g15_ok k y10_2 r h) (fun _ => by kernel_rfl) (fun x7_9 hx7_9 => ?_)
          let E34 : Env := ((114, .bool x7_9) :: (113, .bool x7_9) :: (112, .bool x7_9) :: (111, .str y10_2) :: (110, .bool true) :: E33)
          refine ok_run 2 (p' := (atN 12 (ctl1 g4p24))) (env' := E34) (H' := (mkH [⟨(y10_3).flatMap e3, 0, false⟩])) (by kernel_rfl) ?_
          refine ok_split 114 (b := x7_9) (by kernel_rfl) (fun hb => ?_) (fun hb => ?_)
          · refine ok_run 1 (p' := (atN 13 (ctl1 g4p24))) (env' := ((115, .str y10_2) :: (114, .bool true) :: E34)) (H' := (mkH [⟨(y10_3).flatMap e3, 0, false⟩])) (by kernel_rfl) ?_
            refine ok_call (fun (x7_13 : Int) => .int .i64 x7_13) (atN 14 (ctl1 g4p24)) (fun x7_13 => ((116, .int .i64 x7_13) :: (115, .str y10_2) :: (114, .bool true) :: E34)) (fi := 17) (args := [.str y10_2]) (by kernel_rfl) (by kernel_rfl) (fun _ => by kernel_rfl) (fun r h => g17_ok k y10_2 r h) (fun _ => by kernel_rfl) (fun x7_13 hx7_13 => ?_)
            let E35 : Env := ((2, .bool (decide (x7_13 = (y10_3.length : Int)))) :: (120, .bool (decide (x7_13 = (y10_3.length : Int)))) :: (119, .bool (decide (x7_13 = (y10_3.length : Int)))) :: (118, .int .i64 (y10_3.length : Int)) :: (117, .own 0 (y10_3).length 1) :: (116, .int .i64 x7_13) :: (115, .str y10_2) :: (114, .bool true) :: E34)
            refine ok_run 7 (p' := .fin) (env' := E35) (H' := (mkH [⟨(y10_3).flatMap e3, 0, false⟩])) (by kernel_rfl) ?_
            exact ok_ret (r := (decide (x7_13 = (y10_3.length : Int)))) (xs := [.bool (decide (x7_13 = (y10_3.length : Int)))]) (v := .bool (decide (x7_13 = (y10_3.length : Int)))) (by kernel_rfl) (by kernel_rfl) (by kernel_rfl) (.pures (by kernel_rfl)) (by kernel_rfl)
          · let E36 : Env := ((2, .bool false) :: (120, .bool false) :: (119, .tuple []) :: (118, .tuple []) :: (117, .tuple []) :: (116, .tuple []) :: (115, .tuple []) :: (114, .bool false) :: E34)
            refine ok_run 9 (p' := .fin) (env' := E36) (H' := (mkH [⟨(y10_3).flatMap e3, 0, false⟩])) (by kernel_rfl) ?_
            exact ok_ret (r := false) (xs := [.bool false]) (v := .bool false) (by kernel_rfl) (by kernel_rfl) (by kernel_rfl) (.pures (by kernel_rfl)) (by kernel_rfl)
        · let E37 : Env := ((2, .bool false) :: (120, .bool false) :: (119, .tuple []) :: (118, .tuple []) :: (117, .tuple []) :: (116, .tuple []) :: (115, .tuple []) :: (114, .bool false) :: (113, .bool false) :: (112, .tuple []) :: (111, .tuple []) :: (110, .bool false) :: E33)
          refine ok_run 13 (p' := .fin) (env' := E37) (H' := (mkH [⟨(y10_3).flatMap e3, 0, false⟩])) (by kernel_rfl) ?_
          exact ok_ret (r := false) (xs := [.bool false]) (v := .bool false) (by kernel_rfl) (by kernel_rfl) (by kernel_rfl) (.pures (by kernel_rfl)) (by kernel_rfl)
      · let E38 : Env := ((2, .bool false) :: (120, .bool false) :: (119, .tuple []) :: (118, .tuple []) :: (117, .tuple []) :: (116, .tuple []) :: (115, .tuple []) :: (114, .bool false) :: (113, .bool false) :: (112, .tuple []) :: (111, .tuple []) :: (110, .bool false) :: (109, .bool false) :: (108, .tuple []) :: (107, .tuple []) :: (106, .tuple []) :: (105, .tuple []) :: (104, .bool false) :: (104, .bool x7_0) :: (103, .bool x7_0) :: (57, .bool false) :: E18)
        refine ok_run 19 (p' := .fin) (env' := E38) (H' := (mkH [⟨(y10_3).flatMap e3, 0, false⟩])) (by kernel_rfl) ?_
        exact ok_ret (r := false) (xs := [.bool false]) (v := .bool false) (by kernel_rfl) (by kernel_rfl) (by kernel_rfl) (.pures (by kernel_rfl)) (by kernel_rfl)
noncomputable def g4_l8 (k : Nat)  (a0 : (List Int)) (n : Nat) : (List Nat) → Int → (List Int) → Option Bool :=
  Nat.rec (motive := fun _ => (List Nat) → Int → (List Int) → Option Bool) (fun _ _ _ => none) (fun _ ih => fun (y8_0 : (List Nat)) (y8_1 : Int) (y8_2 : (List Int)) => if (decide (y8_1 < (a0.length : Int))) then ((nthL a0 y8_1).bind fun x1_2 => (g19 k (fwrap .i64 ((fwrap .u64 x1_2).tmod 1114112))).bind fun x2_1 => jn (fun (z9 : Bool × (List Nat) × Int × (List Int)) => if z9.1 then (some false) else (jn (fun (z11 : (List Nat) × (List Int) × Int) => ih z11.1 (fwrap .i64 (z11.2.2 + 1)) z11.2.1) (fun j11 => if (!(eqL x2_1 [])) then ((appS 8 z9.2.2.2 ([fwrap .i64 ((fwrap .u64 x1_2).tmod 1114112)] : List Int)).bind fun x3_3 => (catS z9.2.1 x2_1).bind fun x4_2 => j11 (x4_2, x3_3, z9.2.2.1)) else (j11 (z9.2.1, z9.2.2.2, z9.2.2.1))))) (fun j9 => if (decide (fwrap .i64 ((fwrap .u64 x1_2).tmod 1114112) < 55296)) then (if (!((!(eqL x2_1 [])) == true)) then (j9 (true, y8_0, y8_1, y8_2)) else (j9 (decide (4 < (x2_1.length : Int)), y8_0, y8_1, y8_2))) else (if (!((!(eqL x2_1 [])) == decide (57343 < fwrap .i64 ((fwrap .u64 x1_2).tmod 1114112)))) then (j9 (true, y8_0, y8_1, y8_2)) else (j9 (decide (4 < (x2_1.length : Int)), y8_0, y8_1, y8_2))))) else (g4_l10 k k 0 0 y8_0 y8_2)) n
theorem g4_l8_s (k : Nat)  (a0 : (List Int)) (n : Nat) (y8_0 : (List Nat)) (y8_1 : Int) (y8_2 : (List Int)) : g4_l8 k a0 (n + 1) y8_0 y8_1 y8_2 = (if (decide (y8_1 < (a0.length : Int))) then ((nthL a0 y8_1).bind fun x1_2 => (g19 k (fwrap .i64 ((fwrap .u64 x1_2).tmod 1114112))).bind fun x2_1 => jn (fun (z9 : Bool × (List Nat) × Int × (List Int)) => if z9.1 then (some false) else (jn (fun (z11 : (List Nat) × (List Int) × Int) => (g4_l8 k a0 n) z11.1 (fwrap .i64 (z11.2.2 + 1)) z11.2.1) (fun j11 => if (!(eqL x2_1 [])) then ((appS 8 z9.2.2.2 ([fwrap .i64 ((fwrap .u64 x1_2).tmod 1114112)] : List Int)).bind fun x3_3 => (catS z9.2.1 x2_1).bind fun x4_2 => j11 (x4_2, x3_3, z9.2.2.1)) else (j11 (z9.2.1, z9.2.2.2, z9.2.2.1))))) (fun j9 => if (decide (fwrap .i64 ((fwrap .u64 x1_2).tmod 1114112) < 55296)) then (if (!((!(eqL x2_1 [])) == true)) then (j9 (true, y8_0, y8_1, y8_2)) else (j9 (decide (4 < (x2_1.length : Int)), y8_0, y8_1, y8_2))) else (if (!((!(eqL x2_1 [])) == decide (57343 < fwrap .i64 ((fwrap .u64 x1_2).tmod 1114112)))) then (j9 (true, y8_0, y8_1, y8_2)) else (j9 (decide (4 < (x2_1.length : Int)), y8_0, y8_1, y8_2))))) else (g4_l10 k k 0 0 y8_0 y8_2)) := rfl
theorem g4_l8_ok (k : Nat)  (a0 : (List Int))  : ∀ (n : Nat) (y8_0 : (List Nat)) (y8_1 : Int) (y8_2 : (List Int)), Ok X4 g4p8 [(0, .vec (a0).length 1 ((a0).flatMap e3)), (3, .str y8_0), (4, .own 0 (y8_2).length 1), (5, .int .i64 y8_1)] (mkH [⟨(y8_2).flatMap e3, 0, false⟩]) (g4_l8 k a0 n y8_0 y8_1 y8_2)
  | 0, _, _, _ => ok_none
  | n + 1, y8_0, y8_1, y8_2 => by
    have ih := g4_l8_ok k a0 n
    rw [g4_l8_s]
    refine ok_ent (p' := nav [0] g4p8) (by kernel_rfl) ?_
    let E3 : Env := [(19, .bool (decide (y8_1 < (a0.length : Int)))), (18, .int .i64 (a0.length : Int)), (17, .vec (a0).length 1 ((a0).flatMap e3)), (16, .int .i64 y8_1), (0, .vec (a0).length 1 ((a0).flatMap e3)), (3, .str y8_0), (4, .own 0 (y8_2).length 1), (5, .int .i64 y8_1)]
    refine ok_run 8 (p' := g4p10) (env' := E3) (H' := (mkH [⟨(y8_2).flatMap e3, 0, false⟩])) (by kernel_rfl) ?_
    refine ok_split 19 (b := decide (y8_1 < (a0.length : Int))) (by kernel_rfl) (fun hb => ?_) (fun hb => ?_)
    · refine ok_run 8 (p' := (atN 2 (ctl1 g4p11))) (env' := ((23, .int .i64 y8_1) :: (22, .vec (a0).length 1 ((a0).flatMap e3)) :: (19, .bool true) :: E3)) (H' := (mkH [⟨(y8_2).flatMap e3, 0, false⟩])) (by kernel_rfl) ?_
      refine ok_chk (fun (x1_2 : Int) => (.vptr [.int .i64 x1_2], (mkH [⟨(y8_2).flatMap e3, 0, false⟩]))) (atN 3 (ctl1 g4p11)) (fun x1_2 => ((24, .vptr [.int .i64 x1_2]) :: (23, .int .i64 y8_1) :: (22, .vec (a0).length 1 ((a0).flatMap e3)) :: (19, .bool true) :: E3)) (vidxH (sz := 1) e3_len (by kernel_rfl)) (fun _ => by kernel_rfl) (fun x1_2 hx1_2 => ?_)
      let E4 : Env := ((6, .int .i64 (fwrap .i64 ((fwrap .u64 x1_2).tmod 1114112))) :: (28, .int .i64 (fwrap .i64 ((fwrap .u64 x1_2).tmod 1114112))) :: (27, .int .u64 ((fwrap .u64 x1_2).tmod 1114112)) :: (26, .int .u64 (fwrap .u64 x1_2)) :: (25, .int .i64 x1_2) :: (24, .vptr [.int .i64 x1_2]) :: (23, .int .i64 y8_1) :: (22, .vec (a0).length 1 ((a0).flatMap e3)) :: (19, .bool true) :: E3)
      refine ok_run 7 (p' := g4p13) (env' := E4) (H' := (mkH [⟨(y8_2).flatMap e3, 0, false⟩])) (by kernel_rfl) ?_
      refine ok_keep [0, 3, 4, 5, 6] (env' := [(0, .vec (a0).length 1 ((a0).flatMap e3)), (3, .str y8_0), (4, .own 0 (y8_2).length 1), (5, .int .i64 y8_1), (6, .int .i64 (fwrap .i64 ((fwrap .u64 x1_2).tmod 1114112)))]) (by kernel_rfl) ?_
      let E5 : Env := [(29, .int .i64 (fwrap .i64 ((fwrap .u64 x1_2).tmod 1114112))), (0, .vec (a0).length 1 ((a0).flatMap e3)), (3, .str y8_0), (4, .own 0 (y8_2).length 1), (5, .int .i64 y8_1), (6, .int .i64 (fwrap .i64 ((fwrap .u64 x1_2).tmod 1114112)))]
      refine ok_run 2 (p' := (atN 1 (ctl1 g4p13))) (env' := E5) (H' := (mkH [⟨(y8_2).flatMap e3, 0, false⟩])) (by kernel_rfl) ?_
      refine ok_call (fun (x2_1 : (List Nat)) => .str x2_1) (atN 2 (ctl1 g4p13)) (fun x2_1 => ((30, .str x2_1) :: E5)) (fi := 19) (args := [.int .i64 (fwrap .i64 ((fwrap .u64 x1_2).tmod 1114112))]) (by kernel_rfl) (by kernel_rfl) (fun _ => by kernel_rfl) (fun r h => g19_ok k (fwrap .i64 ((fwrap .u64 x1_2).tmod 1114112)) r h) (fun _ => by kernel_rfl) (fun x2_1 hx2_1 => ?_)
      let E6 : Env := ((35, .bool (decide (fwrap .i64 ((fwrap .u64 x1_2).tmod 1114112) < 55296))) :: (34, .bool (decide (fwrap .i64 ((fwrap .u64 x1_2).tmod 1114112) < 55296))) :: (33, .int .i64 (fwrap .i64 ((fwrap .u64 x1_2).tmod 1114112))) :: (32, .bool (!(eqL x2_1 []))) :: (31, .str x2_1) :: (7, .str x2_1) :: (30, .str x2_1) :: E5)
      refine ok_run 10 (p' := (atN 5 (ctl1 g4p15))) (env' := E6) (H' := (mkH [⟨(y8_2).flatMap e3, 0, false⟩])) (by kernel_rfl) ?_
      refine ok_jn (f := fun (z9 : Bool × (List Nat) × Int × (List Int)) => if z9.1 then (some false) else (jn (fun (z11 : (List Nat) × (List Int) × Int) => (g4_l8 k a0 n) z11.1 (fwrap .i64 (z11.2.2 + 1)) z11.2.1) (fun j11 => if (!(eqL x2_1 [])) then ((appS 8 z9.2.2.2 ([fwrap .i64 ((fwrap .u64 x1_2).tmod 1114112)] : List Int)).bind fun x3_3 => (catS z9.2.1 x2_1).bind fun x4_2 => j11 (x4_2, x3_3, z9.2.2.1)) else (j11 (z9.2.1, z9.2.2.2, z9.2.2.1))))) g4p17 (fun (z9 : Bool × (List Nat) × Int × (List Int)) => [(0, .vec (a0).length 1 ((a0).flatMap e3)), (3, .str z9.2.1), (4, .own 0 (z9.2.2.2).length 1), (5, .int .i64 z9.2.2.1), (6, .int .i64 (fwrap .i64 ((fwrap .u64 x1_2).tmod 1114112))), (7, .str x2_1), (44, .bool z9.1)]) (fun (z9 : Bool × (List Nat) × Int × (List Int)) => (mkH [⟨(z9.2.2.2).flatMap e3, 0, false⟩])) (fun z9 => ?_) (fun j9 hj9 => ?_)
      · refine ok_split 44 (b := z9.1) (by kernel_rfl) (fun hb => ?_) (fun hb => ?_)
        · let E7 : Env := [(2, .bool false), (44, .bool true), (0, .vec (a0).length 1 ((a0).flatMap e3)), (3, .str z9.2.1), (4, .own 0 (z9.2.2.2).length 1), (5, .int .i64 z9.2.2.1), (6, .int .i64 (fwrap .i64 ((fwrap .u64 x1_2).tmod 1114112))), (7, .str x2_1), (44, .bool z9.1)]
          refine ok_run 6 (p' := .fin) (env' := E7) (H' := (mkH [⟨(z9.2.2.2).flatMap e3, 0, false⟩])) (by kernel_rfl) ?_
          exact ok_ret (r := false) (xs := [.bool false]) (v := .bool false) (by kernel_rfl) (by kernel_rfl) (by kernel_rfl) (.pures (by kernel_rfl)) (by kernel_rfl)
        · let E8 : Env := [(46, .bool (!(eqL x2_1 []))), (45, .str x2_1), (44, .bool false), (0, .vec (a0).length 1 ((a0).flatMap e3)), (3, .str z9.2.1), (4, .own 0 (z9.2.2.2).length 1), (5, .int .i64 z9.2.2.1), (6, .int .i64 (fwrap .i64 ((fwrap .u64 x1_2).tmod 1114112))), (7, .str x2_1), (44, .bool z9.1)]
          refine ok_run 7 (p' := g4p22) (env' := E8) (H' := (mkH [⟨(z9.2.2.2).flatMap e3, 0, false⟩])) (by kernel_rfl) ?_
          refine ok_jn (f := fun (z11 : (List Nat) × (List Int) × Int) => (g4_l8 k a0 n) z11.1 (fwrap .i64 (z11.2.2 + 1)) z11.2.1) g4p26 (fun (z11 : (List Nat) × (List Int) × Int) => [(0, .vec (a0).length 1 ((a0).flatMap e3)), (3, .str z11.1), (4, .own 0 (z11.2.1).length 1), (5, .int .i64 z11.2.2)]) (fun (z11 : (List Nat) × (List Int) × Int) => (mkH [⟨(z11.2.1).flatMap e3, 0, false⟩])) (fun z11 => ?_) (fun j11 hj11 => ?_)
          · let E9 : Env := [(5, .int .i64 (fwrap .i64 (z11.2.2 + 1))), (21, .int .i64 (fwrap .i64 (z11.2.2 + 1))), (20, .int .i64 z11.2.2), (0, .vec (a0).length 1 ((a0).flatMap e3)), (3, .str z11.1), (4, .own 0 (z11.2.1).length 1), (5, .int .i64 z11.2.2)]
            refine ok_run 5 (p' := g4p8) (env' := E9) (H' := (mkH [⟨(z11.2.1).flatMap e3, 0, false⟩])) (by kernel_rfl) ?_
            refine ok_keep [0, 3, 4, 5] (env' := [(0, .vec (a0).length 1 ((a0).flatMap e3)), (3, .str z11.1), (4, .own 0 (z11.2.1).length 1), (5, .int .i64 (fwrap .i64 (z11.2.2 + 1)))]) (by kernel_rfl) ?_
            exact ih z11.1 (fwrap .i64 (z11.2.2 + 1)) z11.2.1
          · refine ok_split 46 (b := !(eqL x2_1 [])) (by kernel_rfl) (fun hb => ?_) (fun hb => ?_)
            · refine ok_run 6 (p' := (atN 3 (ctl1 g4p25))) (env' := ((49, .slice 1 1 0 1 1) :: (48, .int .i64 (fwrap .i64 ((fwrap .u64 x1_2).tmod 1114112))) :: (47, .own 0 (z9.2.2.2).length 1) :: (46, .bool true) :: E8)) (H' := (mkH [⟨(z9.2.2.2).flatMap e3, 0, false⟩, ⟨[.int .i64 (fwrap .i64 ((fwrap .u64 x1_2).tmod 1114112))], 0, false⟩])) (by kernel_rfl) ?_
              refine ok_chk (fun (x3_3 : (List Int)) => (.own 0 (x3_3).length 1, (mkH [⟨(x3_3).flatMap e3, 0, false⟩, ⟨[.int .i64 (fwrap .i64 ((fwrap .u64 x1_2).tmod 1114112))], 0, false⟩]))) (atN 4 (ctl1 g4p25)) (fun x3_3 => ((50, .own 0 (x3_3).length 1) :: (49, .slice 1 1 0 1 1) :: (48, .int .i64 (fwrap .i64 ((fwrap .u64 x1_2).tmod 1114112))) :: (47, .own 0 (z9.2.2.2).length 1) :: (46, .bool true) :: E8)) (appH (sz := 1) e3_len rfl e3_one [⟨(z9.2.2.2).flatMap e3, 0, false⟩, ⟨[.int .i64 (fwrap .i64 ((fwrap .u64 x1_2).tmod 1114112))], 0, false⟩] 0 8 z9.2.2.2 ([fwrap .i64 ((fwrap .u64 x1_2).tmod 1114112)] : List Int) rfl rfl (by kernel_rfl)) (fun _ => by kernel_rfl) (fun x3_3 hx3_3 => ?_)
              let E10 : Env := ((4, .own 0 (x3_3).length 1) :: (50, .own 0 (x3_3).length 1) :: (49, .slice 1 1 0 1 1) :: (48, .int .i64 (fwrap .i64 ((fwrap .u64 x1_2).tmod 1114112))) :: (47, .own 0 (z9.2.2.2).length 1) :: (46, .bool true) :: E8)
              refine ok_run 2 (p' := g4p28) (env' := E10) (H' := (mkH [⟨(x3_3).flatMap e3, 0, false⟩, ⟨[.int .i64 (fwrap .i64 ((fwrap .u64 x1_2).tmod 1114112))], 0, false⟩])) (by kernel_rfl) ?_
              refine ok_keep [0, 3, 4, 5, 7] (env' := [(0, .vec (a0).length 1 ((a0).flatMap e3)), (3, .str z9.2.1), (4, .own 0 (x3_3).length 1), (5, .int .i64 z9.2.2.1), (7, .str x2_1)]) (by kernel_rfl) ?_
              let E11 : Env := [(52, .str x2_1), (51, .str z9.2.1), (0, .vec (a0).length 1 ((a0).flatMap e3)), (3, .str z9.2.1), (4, .own 0 (x3_3).length 1), (5, .int .i64 z9.2.2.1), (7, .str x2_1)]
              refine ok_run 3 (p' := (atN 2 (ctl1 g4p28))) (env' := E11) (H' := (mkH [⟨(x3_3).flatMap e3, 0, false⟩, ⟨[.int .i64 (fwrap .i64 ((fwrap .u64 x1_2).tmod 1114112))], 0, false⟩])) (by kernel_rfl) ?_
              refine ok_chk (fun (x4_2 : (List Nat)) => (.str x4_2, (mkH [⟨(x3_3).flatMap e3, 0, false⟩, ⟨[.int .i64 (fwrap .i64 ((fwrap .u64 x1_2).tmod 1114112))], 0, false⟩]))) (atN 3 (ctl1 g4p28)) (fun x4_2 => ((53, .str x4_2) :: E11)) (catH (by kernel_rfl)) (fun _ => by kernel_rfl) (fun x4_2 hx4_2 => ?_)
              refine ok_run 2 (p' := g4p26) (env' := ((3, .str x4_2) :: (53, .str x4_2) :: E11)) (H' := (mkH [⟨(x3_3).flatMap e3, 0, false⟩, ⟨[.int .i64 (fwrap .i64 ((fwrap .u64 x1_2).tmod 1114112))], 0, false⟩])) (by kernel_rfl) ?_
              refine ok_keep [0, 3, 4, 5] (env' := [(0, .vec (a0).length 1 ((a0).flatMap e3)), (3, .str x4_2), (4, .own 0 (x3_3).length 1), (5, .int .i64 z9.2.2.1)]) (by kernel_rfl) ?_
              refine ok_cut [⟨(x3_3).flatMap e3, 0, false⟩] [⟨[.int .i64 (fwrap .i64 ((fwrap .u64 x1_2).tmod 1114112))], 0, false⟩] (by kernel_rfl) rfl (by kernel_rfl) ⟨(purs_belows _ (purs_flatMap e3_pur _)), trivial⟩ ?_
              exact hj11 (x4_2, x3_3, z9.2.2.1)
            · refine ok_run 2 (p' := g4p26) (env' := ((46, .bool false) :: E8)) (H' := (mkH [⟨(z9.2.2.2).flatMap e3, 0, false⟩])) (by kernel_rfl) ?_
              refine ok_keep [0, 3, 4, 5] (env' := [(0, .vec (a0).length 1 ((a0).flatMap e3)), (3, .str z9.2.1), (4, .own 0 (z9.2.2.2).length 1), (5, .int .i64 z9.2.2.1)]) (by kernel_rfl) ?_
              exact hj11 (z9.2.1, z9.2.2.2, z9.2.2.1)
      · refine ok_split 35 (b := decide (fwrap .i64 ((fwrap .u64 x1_2).tmod 1114112) < 55296)) (by kernel_rfl) (fun hb => ?_) (fun hb => ?_)
        · let E12 : Env := ((40, .bool (!((!(eqL x2_1 [])) == true))) :: (39, .bool (!((!(eqL x2_1 [])) == true))) :: (38, .bool true) :: (37, .tuple []) :: (36, .tuple []) :: (35, .bool true) :: E6)
          refine ok_run 5 (p' := (atN 10 (ctl1 g4p15))) (env' := E12) (H' := (mkH [⟨(y8_2).flatMap e3, 0, false⟩])) (by kernel_rfl) ?_
          refine ok_split 40 (b := !((!(eqL x2_1 [])) == true)) (by kernel_rfl) (fun hb => ?_) (fun hb => ?_)
          · let E13 : Env := ((44, .bool true) :: (43, .tuple []) :: (42, .tuple []) :: (41, .tuple []) :: (40, .bool true) :: E12)
            refine ok_run 5 (p' := g4p17) (env' := E13) (H' := (mkH [⟨(y8_2).flatMap e3, 0, false⟩])) (by kernel_rfl) ?_
            refine ok_keep [0, 3, 4, 5, 6, 7, 44] (env' := [(0, .vec (a0).length 1 ((a0).flatMap e3)), (3, .str y8_0), (4, .own 0 (y8_2).length 1), (5, .int .i64 y8_1), (6, .int .i64 (fwrap .i64 ((fwrap .u64 x1_2).tmod 1114112))), (7, .str x2_1), (44, .bool true)]) (by kernel_rfl) ?_
            exact hj9 (true, y8_0, y8_1, y8_2)
          · let E14 : Env := ((44, .bool (decide (4 < (x2_1.length : Int)))) :: (43, .bool (decide (4 < (x2_1.length : Int)))) :: (42, .int .i64 (x2_1.length : Int)) :: (41, .str x2_1) :: (40, .bool false) :: E12)
            refine ok_run 5 (p' := g4p17) (env' := E14) (H' := (mkH [⟨(y8_2).flatMap e3, 0, false⟩])) (by kernel_rfl) ?_
            refine ok_keep [0, 3, 4, 5, 6, 7, 44] (env' := [(0, .vec (a0).length 1 ((a0).flatMap e3)), (3, .str y8_0), (4, .own 0 (y8_2).length 1), (5, .int .i64 y8_1), (6, .int .i64 (fwrap .i64 ((fwrap .u64 x1_2).tmod 1114112))), (7, .str x2_1), (44, .bool (decide (4 < (x2_1.length : Int))))]) (by kernel_rfl) ?_
            exact hj9 (decide (4 < (x2_1.length : Int)), y8_0, y8_1, y8_2)
        · let E15 : Env := ((40, .bool (!((!(eqL x2_1 [])) == decide (57343 < fwrap .i64 ((fwrap .u64 x1_2).tmod 1114112))))) :: (39, .bool (!((!(eqL x2_1 [])) == decide (57343 < fwrap .i64 ((fwrap .u64 x1_2).tmod 1114112))))) :: (38, .bool (decide (57343 < fwrap .i64 ((fwrap .u64 x1_2).tmod 1114112)))) :: (37, .bool (decide (57343 < fwrap .i64 ((fwrap .u64 x1_2).tmod 1114112)))) :: (36, .int .i64 (fwrap .i64 ((fwrap .u64 x1_2).tmod 1114112))) :: (35, .bool false) :: E6)
          refine ok_run 5 (p' := (atN 10 (ctl1 g4p15))) (env' := E15) (H' := (mkH [⟨(y8_2).flatMap e3, 0, false⟩])) (by kernel_rfl) ?_
          refine ok_split 40 (b := !((!(eqL x2_1 [])) == decide (57343 < fwrap .i64 ((fwrap .u64 x1_2).tmod 1114112)))) (by kernel_rfl) (fun hb => ?_) (fun hb => ?_)
          · let E16 : Env := ((44, .bool true) :: (43, .tuple []) :: (42, .tuple []) :: (41, .tuple []) :: (40, .bool true) :: E15)
            refine ok_run 5 (p' := g4p17) (env' := E16) (H' := (mkH [⟨(y8_2).flatMap e3, 0, false⟩])) (by kernel_rfl) ?_
            refine ok_keep [0, 3, 4, 5, 6, 7, 44] (env' := [(0, .vec (a0).length 1 ((a0).flatMap e3)), (3, .str y8_0), (4, .own 0 (y8_2).length 1), (5, .int .i64 y8_1), (6, .int .i64 (fwrap .i64 ((fwrap .u64 x1_2).tmod 1114112))), (7, .str x2_1), (44, .bool true)]) (by kernel_rfl) ?_
            exact hj9 (true, y8_0, y8_1, y8_2)
          · let E17 : Env := ((44, .bool (decide (4 < (x2_1.length : Int)))) :: (43, .bool (decide (4 < (x2_1.length : Int)))) :: (42, .int .i64 (x2_1.length : Int)) :: (41, .str x2_1) :: (40, .bool false) :: E15)
            refine ok_run 5 (p' := g4p17) (env' := E17) (H' := (mkH [⟨(y8_2).flatMap e3, 0, false⟩])) (by kernel_rfl) ?_
            refine ok_keep [0, 3, 4, 5, 6, 7, 44] (env' := [(0, .vec (a0).length 1 ((a0).flatMap e3)), (3, .str y8_0), (4, .own 0 (y8_2).length 1), (5, .int .i64 y8_1), (6, .int .i64 (fwrap .i64 ((fwrap .u64 x1_2).tmod 1114112))), (7, .str x2_1), (44, .bool (decide (4 < (x2_1.length : Int))))]) (by kernel_rfl) ?_
            exact hj9 (decide (4 < (x2_1.length : Int)), y8_0, y8_1, y8_2)
    · refine ok_run 8 (p' := g4p14) (env' := ((8, .int .i64 0) :: (19, .bool false) :: E3)) (H' := (mkH [⟨(y8_2).flatMap e3, 0, false⟩])) (by kernel_rfl) ?_
      refine ok_keep [3, 4, 8] (env' := [(3, .str y8_0), (4, .own 0 (y8_2).length 1), (8, .int .i64 0)]) (by kernel_rfl) ?_
      refine ok_run 5 (p' := g4p16) (env' := [(9, .int .i64 0), (3, .str y8_0), (4, .own 0 (y8_2).length 1), (8, .int .i64 0)]) (H' := (mkH [⟨(y8_2).flatMap e3, 0, false⟩])) (by kernel_rfl) ?_
      refine ok_keep [3, 4, 8, 9] (env' := [(3, .str y8_0), (4, .own 0 (y8_2).length 1), (8, .int .i64 0), (9, .int .i64 0)]) (by kernel_rfl) ?_
      exact (g4_l10_ok k k) 0 0 y8_0 y8_2
noncomputable def g4 (k : Nat) (a0 : (List Int)) : Option Bool :=
  if (decide (60 < (a0.length : Int))) then ((g12 k).bind fun x0_0 => some x0_0) else (g4_l8 k a0 k ([] : List Nat) 0 ([] : List Int))
theorem g4_ok (k : Nat) (a0 : (List Int)) (r : Bool) (h : g4 k a0 = some r) : PureOk Try.prog 4 [.vec (a0).length 1 ((a0).flatMap e3)] (.bool r) := by
  refine pure_of X4 (fun _ => rfl) Try.func4 (by decide +kernel) (by kernel_rfl) (t := g4 k a0) ?_ h
  unfold g4
  refine ok_env (env' := [(0, .vec (a0).length 1 ((a0).flatMap e3))]) (by kernel_rfl) ?_
  let E1 : Env := [(14, .bool (decide (60 < (a0.length : Int)))), (13, .int .i64 (a0.length : Int)), (12, .vec (a0).length 1 ((a0).flatMap e3)), (2, .bool false), (0, .vec (a0).length 1 ((a0).flatMap e3))]
  refine ok_run 11 (p' := g4p2) (env' := E1) (H' := (mkH [])) (by kernel_rfl) ?_
  refine ok_split 14 (b := decide (60 < (a0.length : Int))) (by kernel_rfl) (fun hb => ?_) (fun hb => ?_)
  · refine ok_run 3 (p' := (atN 0 (ctl1 g4p3))) (env' := ((14, .bool true) :: E1)) (H' := (mkH [])) (by kernel_rfl) ?_
    refine ok_call (fun (x0_0 : Bool) => .bool x0_0) (atN 1 (ctl1 g4p3)) (fun x0_0 => ((15, .bool x0_0) :: (14, .bool true) :: E1)) (fi := 12) (args := []) (by kernel_rfl) (by kernel_rfl) (fun _ => by kernel_rfl) (fun r h => g12_ok k  r h) (fun _ => by kernel_rfl) (fun x0_0 hx0_0 => ?_)
    refine ok_run 3 (p' := .fin) (env' := ((2, .bool x0_0) :: (15, .bool x0_0) :: (14, .bool true) :: E1)) (H' := (mkH [])) (by kernel_rfl) ?_
    exact ok_ret (r := x0_0) (xs := [.bool x0_0]) (v := .bool x0_0) (by kernel_rfl) (by kernel_rfl) (by kernel_rfl) (.pures (by kernel_rfl)) (by kernel_rfl)
  · refine ok_run 9 (p' := (atN 1 (ctl1 g4p6))) (env' := ((4, .nils) :: (3, .str []) :: (14, .bool false) :: E1)) (H' := (mkH [])) (by kernel_rfl) ?_
    refine ok_own [] 4 1 rfl (by kernel_rfl) ?_
    refine ok_env (env' := [(4, .own 0 (([] : List Int)).length 1), (4, .nils), (3, .str []), (14, .bool false), (14, .bool (decide (60 < (a0.length : Int)))), (13, .int .i64 (a0.length : Int)), (12, .vec (a0).length 1 ((a0).flatMap e3)), (2, .bool false), (0, .vec (a0).length 1 ((a0).flatMap e3))]) (by kernel_rfl) ?_
    refine ok_heap (H' := (mkH [⟨(([] : List Int)).flatMap e3, 0, false⟩])) (by kernel_rfl) ?_
    let E2 : Env := ((5, .int .i64 0) :: (4, .own 0 (([] : List Int)).length 1) :: (4, .nils) :: (3, .str []) :: (14, .bool false) :: E1)
    refine ok_run 8 (p' := g4p8) (env' := E2) (H' := (mkH [⟨(([] : List Int)).flatMap e3, 0, false⟩])) (by kernel_rfl) ?_
    refine ok_keep [0, 3, 4, 5] (env' := [(0, .vec (a0).length 1 ((a0).flatMap e3)), (3, .str []), (4, .own 0 (([] : List Int)).length 1), (5, .int .i64 0)]) (by kernel_rfl) ?_
    exact (g4_l8_ok k a0 k) ([] : List Nat) 0 ([] : List Int)
end Go.Proofs.Ytfkefelgjbfkjaa.Am
