/- Function 14, plain, and that the program computes it. Printed by gen.py. -/
import Derived.Test.YtnikdnchoahngaaTy
set_option maxRecDepth 100000
set_option linter.unusedVariables false
namespace Go.Proofs.Ytnikdnchoahngaa.Am
open Go

/-! 14 galley/word.Reserved -/
noncomputable def X14 : Fx Bool := ⟨Try.prog, cx, Try.f14, fun r => .bool r, 0, fun _ => H0, cxTi, cxOrd⟩
def g14c0 : List Nat := [97, 102, 116, 101, 114]
def g14c1 : List Nat := [97, 110, 100, 97, 108, 115, 111]
def g14c2 : List Nat := [98, 101, 103, 105, 110]
def g14c3 : List Nat := [111, 114, 101, 108, 115, 101]
def g14c4 : List Nat := [114, 101, 99, 101, 105, 118, 101]
noncomputable def g14p0 : Pt := nav [0] (bodyAt Try.f14)
noncomputable def g14p1 : Pt := nav [0, 0, 0, 0] g14p0
noncomputable def g14p2 : Pt := nav [0, 0, 0, 0, 0] g14p1
noncomputable def g14p3 : Pt := nav [0, 0] g14p2
noncomputable def g14p4 : Pt := nav [1, 0] g14p3
noncomputable def g14p5 : Pt := nav [2, 0] g14p3
noncomputable def g14p6 : Pt := nav [1, 0] g14p4
noncomputable def g14p7 : Pt := nav [2, 0, 0] g14p4
noncomputable def g14p8 : Pt := nav [0, 0] g14p5
noncomputable def g14p10 : Pt := nav [2, 0] g14p8
noncomputable def g14p11 : Pt := nav [0, 0] g14p10
noncomputable def g14p12 : Pt := nav [2, 0] g14p11
noncomputable def g14p13 : Pt := nav [0, 0] g14p12
noncomputable def g14p14 : Pt := nav [2, 0] g14p13
noncomputable def g14p15 : Pt := nav [0, 0] g14p14
noncomputable def g14p16 : Pt := nav [2, 0] g14p15
noncomputable def g14p17 : Pt := nav [0, 0] g14p16
noncomputable def g14p18 : Pt := nav [2, 0] g14p17
noncomputable def g14p19 : Pt := nav [0, 0] g14p18
noncomputable def g14p20 : Pt := nav [2, 0] g14p19
noncomputable def g14p21 : Pt := nav [0, 0] g14p20
noncomputable def g14p22 : Pt := nav [2, 0] g14p21
noncomputable def g14p23 : Pt := nav [0, 0] g14p22
noncomputable def g14p24 : Pt := nav [2, 0] g14p23
noncomputable def g14p25 : Pt := nav [0, 0] g14p24
noncomputable def g14p26 : Pt := nav [2, 0] g14p25
noncomputable def g14p27 : Pt := nav [0, 0] g14p26
noncomputable def g14p28 : Pt := nav [2, 0] g14p27
noncomputable def g14p29 : Pt := nav [0, 0] g14p28
noncomputable def g14p30 : Pt := nav [2, 0] g14p29
noncomputable def g14p31 : Pt := nav [0, 0] g14p30
noncomputable def g14p32 : Pt := nav [2, 0] g14p31
noncomputable def g14p33 : Pt := nav [0, 0] g14p32
noncomputable def g14p34 : Pt := nav [2, 0] g14p33
noncomputable def g14p35 : Pt := nav [0, 0] g14p34
noncomputable def g14p36 : Pt := nav [2, 0] g14p35
noncomputable def g14p37 : Pt := nav [0, 0] g14p36
noncomputable def g14p38 : Pt := nav [2, 0] g14p37
noncomputable def g14p39 : Pt := nav [0, 0] g14p38
noncomputable def g14p40 : Pt := nav [2, 0] g14p39
noncomputable def g14p41 : Pt := nav [0, 0] g14p40
noncomputable def g14p42 : Pt := nav [2, 0] g14p41
noncomputable def g14p43 : Pt := nav [0, 0] g14p42
noncomputable def g14p44 : Pt := nav [2, 0] g14p43
noncomputable def g14p45 : Pt := nav [0, 0] g14p44
noncomputable def g14p46 : Pt := nav [2, 0] g14p45
noncomputable def g14p47 : Pt := nav [0, 0] g14p46
noncomputable def g14p48 : Pt := nav [2, 0] g14p47
noncomputable def g14p49 : Pt := nav [0, 0] g14p48
noncomputable def g14p50 : Pt := nav [2, 0] g14p49
noncomputable def g14p51 : Pt := nav [0, 0] g14p50
noncomputable def g14p52 : Pt := nav [2] g14p51
noncomputable def g14 (k : Nat) (a0 : (List Nat)) : Option Bool :=
  jn (fun (z0 : Bool) => if z0 then (some true) else (some false)) (fun j0 => if (eqL a0 g14c0) then (j0 true) else (if (eqL a0 [97, 110, 100]) then (j0 true) else (if (eqL a0 g14c1) then (j0 true) else (if (eqL a0 [98, 97, 110, 100]) then (j0 true) else (if (eqL a0 g14c2) then (j0 true) else (if (eqL a0 [98, 110, 111, 116]) then (j0 true) else (if (eqL a0 [98, 111, 114]) then (j0 true) else (if (eqL a0 [98, 115, 108]) then (j0 true) else (if (eqL a0 [98, 115, 114]) then (j0 true) else (if (eqL a0 [98, 120, 111, 114]) then (j0 true) else (if (eqL a0 [99, 97, 115, 101]) then (j0 true) else (if (eqL a0 [99, 97, 116, 99, 104]) then (j0 true) else (if (eqL a0 [100, 105, 118]) then (j0 true) else (if (eqL a0 [101, 110, 100]) then (j0 true) else (if (eqL a0 [102, 117, 110]) then (j0 true) else (if (eqL a0 [105, 102]) then (j0 true) else (if (eqL a0 [110, 111, 116]) then (j0 true) else (if (eqL a0 [111, 102]) then (j0 true) else (if (eqL a0 [111, 114]) then (j0 true) else (if (eqL a0 g14c3) then (j0 true) else (if (eqL a0 g14c4) then (j0 true) else (if (eqL a0 [114, 101, 109]) then (j0 true) else (if (eqL a0 [119, 104, 101, 110]) then (j0 true) else (j0 (eqL a0 [120, 111, 114])))))))))))))))))))))))))
theorem g14_ok (k : Nat) (a0 : (List Nat)) (r : Bool) (h : g14 k a0 = some r) : PureOk Try.prog 14 [.str a0] (.bool r) := by
  refine pure_of X14 (fun _ => rfl) Try.func14 (by decide +kernel) (by kernel_rfl) (t := g14 k a0) ?_ h
  unfold g14
  refine ok_env (env' := [(0, .str a0)]) (by kernel_rfl) ?_
  refine ok_run 16 (p' := g14p3) (env' := [(4, .bool (eqL a0 g14c0)), (5, .bool (eqL a0 g14c0)), (3, .str a0), (2, .bool false), (0, .str a0)]) (H' := (mkH [])) (by kernel_rfl) ?_
  refine ok_jn (f := fun (z0 : Bool) => if z0 then (some true) else (some false)) g14p4 (fun (z0 : Bool) => [(4, .bool z0)]) (fun (z0 : Bool) => (mkH [])) (fun z0 => ?_) (fun j0 hj0 => ?_)
  · refine ok_split 4 (b := z0) (by kernel_rfl) (fun hb => ?_) (fun hb => ?_)
    · refine ok_run 6 (p' := .fin) (env' := [(2, .bool true), (4, .bool true), (4, .bool z0)]) (H' := (mkH [])) (by kernel_rfl) ?_
      exact ok_ret (r := true) (xs := [.bool true]) (v := .bool true) (by kernel_rfl) (by kernel_rfl) (by kernel_rfl) (.pures (by kernel_rfl)) (by kernel_rfl)
    · refine ok_run 7 (p' := .fin) (env' := [(2, .bool false), (4, .bool false), (4, .bool z0)]) (H' := (mkH [])) (by kernel_rfl) ?_
      exact ok_ret (r := false) (xs := [.bool false]) (v := .bool false) (by kernel_rfl) (by kernel_rfl) (by kernel_rfl) (.pures (by kernel_rfl)) (by kernel_rfl)
  · refine ok_split 4 (b := eqL a0 g14c0) (by kernel_rfl) (fun hb => ?_) (fun hb => ?_)
    · refine ok_run 2 (p' := g14p4) (env' := [(4, .bool true), (4, .bool (eqL a0 g14c0)), (5, .bool (eqL a0 g14c0)), (3, .str a0), (2, .bool false), (0, .str a0)]) (H' := (mkH [])) (by kernel_rfl) ?_
      refine ok_keep [4] (env' := [(4, .bool true)]) (by kernel_rfl) ?_
      exact hj0 true
    · refine ok_run 6 (p' := g14p8) (env' := [(4, .bool (eqL a0 [97, 110, 100])), (6, .bool (eqL a0 [97, 110, 100])), (4, .bool false), (4, .bool (eqL a0 g14c0)), (5, .bool (eqL a0 g14c0)), (3, .str a0), (2, .bool false), (0, .str a0)]) (H' := (mkH [])) (by kernel_rfl) ?_
      refine ok_split 4 (b := eqL a0 [97, 110, 100]) (by kernel_rfl) (fun hb => ?_) (fun hb => ?_)
      · refine ok_run 2 (p' := g14p4) (env' := [(4, .bool true), (4, .bool (eqL a0 [97, 110, 100])), (6, .bool (eqL a0 [97, 110, 100])), (4, .bool false), (4, .bool (eqL a0 g14c0)), (5, .bool (eqL a0 g14c0)), (3, .str a0), (2, .bool false), (0, .str a0)]) (H' := (mkH [])) (by kernel_rfl) ?_
        refine ok_keep [4] (env' := [(4, .bool true)]) (by kernel_rfl) ?_
        exact hj0 true
      · refine ok_run 6 (p' := g14p11) (env' := [(4, .bool (eqL a0 g14c1)), (7, .bool (eqL a0 g14c1)), (4, .bool false), (4, .bool (eqL a0 [97, 110, 100])), (6, .bool (eqL a0 [97, 110, 100])), (4, .bool false), (4, .bool (eqL a0 g14c0)), (5, .bool (eqL a0 g14c0)), (3, .str a0), (2, .bool false), (0, .str a0)]) (H' := (mkH [])) (by kernel_rfl) ?_
        refine ok_split 4 (b := eqL a0 g14c1) (by kernel_rfl) (fun hb => ?_) (fun hb => ?_)
        · refine ok_run 2 (p' := g14p4) (env' := [(4, .bool true), (4, .bool (eqL a0 g14c1)), (7, .bool (eqL a0 g14c1)), (4, .bool false), (4, .bool (eqL a0 [97, 110, 100])), (6, .bool (eqL a0 [97, 110, 100])), (4, .bool false), (4, .bool (eqL a0 g14c0)), (5, .bool (eqL a0 g14c0)), (3, .str a0), (2, .bool false), (0, .str a0)]) (H' := (mkH [])) (by kernel_rfl) ?_
          refine ok_keep [4] (env' := [(4, .bool true)]) (by kernel_rfl) ?_
          exact hj0 true
        · refine ok_run 6 (p' := g14p13) (env' := [(4, .bool (eqL a0 [98, 97, 110, 100])), (8, .bool (eqL a0 [98, 97, 110, 100])), (4, .bool false), (4, .bool (eqL a0 g14c1)), (7, .bool (eqL a0 g14c1)), (4, .bool false), (4, .bool (eqL a0 [97, 110, 100])), (6, .bool (eqL a0 [97, 110, 100])), (4, .bool false), (4, .bool (eqL a0 g14c0)), (5, .bool (eqL a0 g14c0)), (3, .str a0), (2, .bool false), (0, .str a0)]) (H' := (mkH [])) (by kernel_rfl) ?_
          refine ok_split 4 (b := eqL a0 [98, 97, 110, 100]) (by kernel_rfl) (fun hb => ?_) (fun hb => ?_)
          · refine ok_run 2 (p' := g14p4) (env' := [(4, .bool true), (4, .bool (eqL a0 [98, 97, 110, 100])), (8, .bool (eqL a0 [98, 97, 110, 100])), (4, .bool false), (4, .bool (eqL a0 g14c1)), (7, .bool (eqL a0 g14c1)), (4, .bool false), (4, .bool (eqL a0 [97, 110, 100])), (6, .bool (eqL a0 [97, 110, 100])), (4, .bool false), (4, .bool (eqL a0 g14c0)), (5, .bool (eqL a0 g14c0)), (3, .str a0), (2, .bool false), (0, .str a0)]) (H' := (mkH [])) (by kernel_rfl) ?_
            refine ok_keep [4] (env' := [(4, .bool true)]) (by kernel_rfl) ?_
            exact hj0 true
          · refine ok_run 6 (p' := g14p15) (env' := [(4, .bool (eqL a0 g14c2)), (9, .bool (eqL a0 g14c2)), (4, .bool false), (4, .bool (eqL a0 [98, 97, 110, 100])), (8, .bool (eqL a0 [98, 97, 110, 100])), (4, .bool false), (4, .bool (eqL a0 g14c1)), (7, .bool (eqL a0 g14c1)), (4, .bool false), (4, .bool (eqL a0 [97, 110, 100])), (6, .bool (eqL a0 [97, 110, 100])), (4, .bool false), (4, .bool (eqL a0 g14c0)), (5, .bool (eqL a0 g14c0)), (3, .str a0), (2, .bool false), (0, .str a0)]) (H' := (mkH [])) (by kernel_rfl) ?_
            refine ok_split 4 (b := eqL a0 g14c2) (by kernel_rfl) (fun hb => ?_) (fun hb => ?_)
            · refine ok_run 2 (p' := g14p4) (env' := [(4, .bool true), (4, .bool (eqL a0 g14c2)), (9, .bool (eqL a0 g14c2)), (4, .bool false), (4, .bool (eqL a0 [98, 97, 110, 100])), (8, .bool (eqL a0 [98, 97, 110, 100])), (4, .bool false), (4, .bool (eqL a0 g14c1)), (7, .bool (eqL a0 g14c1)), (4, .bool false), (4, .bool (eqL a0 [97, 110, 100])), (6, .bool (eqL a0 [97, 110, 100])), (4, .bool false), (4, .bool (eqL a0 g14c0)), (5, .bool (eqL a0 g14c0)), (3, .str a0), (2, .bool false), (0, .str a0)]) (H' := (mkH [])) (by kernel_rfl) ?_
              refine ok_keep [4] (env' := [(4, .bool true)]) (by kernel_rfl) ?_
              exact hj0 true
            · refine ok_run 6 (p' := g14p17) (env' := [(4, .bool (eqL a0 [98, 110, 111, 116])), (10, .bool (eqL a0 [98, 110, 111, 116])), (4, .bool false), (4, .bool (eqL a0 g14c2)), (9, .bool (eqL a0 g14c2)), (4, .bool false), (4, .bool (eqL a0 [98, 97, 110, 100])), (8, .bool (eqL a0 [98, 97, 110, 100])), (4, .bool false), (4, .bool (eqL a0 g14c1)), (7, .bool (eqL a0 g14c1)), (4, .bool false), (4, .bool (eqL a0 [97, 110, 100])), (6, .bool (eqL a0 [97, 110, 100])), (4, .bool false), (4, .bool (eqL a0 g14c0)), (5, .bool (eqL a0 g14c0)), (3, .str a0), (2, .bool false), (0, .str a0)]) (H' := (mkH [])) (by kernel_rfl) ?_
              refine ok_split 4 (b := eqL a0 [98, 110, 111, 116]) (by kernel_rfl) (fun hb => ?_) (fun hb => ?_)
              · refine ok_run 2 (p' := g14p4) (env' := [(4, .bool true), (4, .bool (eqL a0 [98, 110, 111, 116])), (10, .bool (eqL a0 [98, 110, 111, 116])), (4, .bool false), (4, .bool (eqL a0 g14c2)), (9, .bool (eqL a0 g14c2)), (4, .bool false), (4, .bool (eqL a0 [98, 97, 110, 100])), (8, .bool (eqL a0 [98, 97, 110, 100])), (4, .bool false), (4, .bool (eqL a0 g14c1)), (7, .bool (eqL a0 g14c1)), (4, .bool false), (4, .bool (eqL a0 [97, 110, 100])), (6, .bool (eqL a0 [97, 110, 100])), (4, .bool false), (4, .bool (eqL a0 g14c0)), (5, .bool (eqL a0 g14c0)), (3, .str a0), (2, .bool false), (0, .str a0)]) (H' := (mkH [])) (by kernel_rfl) ?_
                refine ok_keep [4] (env' := [(4, .bool true)]) (by kernel_rfl) ?_
                exact hj0 true
              · refine ok_run 6 (p' := g14p19) (env' := [(4, .bool (eqL a0 [98, 111, 114])), (11, .bool (eqL a0 [98, 111, 114])), (4, .bool false), (4, .bool (eqL a0 [98, 110, 111, 116])), (10, .bool (eqL a0 [98, 110, 111, 116])), (4, .bool false), (4, .bool (eqL a0 g14c2)), (9, .bool (eqL a0 g14c2)), (4, .bool false), (4, .bool (eqL a0 [98, 97, 110, 100])), (8, .bool (eqL a0 [98, 97, 110, 100])), (4, .bool false), (4, .bool (eqL a0 g14c1)), (7, .bool (eqL a0 g14c1)), (4, .bool false), (4, .bool (eqL a0 [97, 110, 100])), (6, .bool (eqL a0 [97, 110, 100])), (4, .bool false), (4, .bool (eqL a0 g14c0)), (5, .bool (eqL a0 g14c0)), (3, .str a0), (2, .bool false), (0, .str a0)]) (H' := (mkH [])) (by kernel_rfl) ?_
                refine ok_split 4 (b := eqL a0 [98, 111, 114]) (by kernel_rfl) (fun hb => ?_) (fun hb => ?_)
                · refine ok_run 2 (p' := g14p4) (env' := [(4, .bool true), (4, .bool (eqL a0 [98, 111, 114])), (11, .bool (eqL a0 [98, 111, 114])), (4, .bool false), (4, .bool (eqL a0 [98, 110, 111, 116])), (10, .bool (eqL a0 [98, 110, 111, 116])), (4, .bool false), (4, .bool (eqL a0 g14c2)), (9, .bool (eqL a0 g14c2)), (4, .bool false), (4, .bool (eqL a0 [98, 97, 110, 100])), (8, .bool (eqL a0 [98, 97, 110, 100])), (4, .bool false), (4, .bool (eqL a0 g14c1)), (7, .bool (eqL a0 g14c1)), (4, .bool false), (4, .bool (eqL a0 [97, 110, 100])), (6, .bool (eqL a0 [97, 110, 100])), (4, .bool false), (4, .bool (eqL a0 g14c0)), (5, .bool (eqL a0 g14c0)), (3, .str a0), (2, .bool false), (0, .str a0)]) (H' := (mkH [])) (by kernel_rfl) ?_
                  refine ok_keep [4] (env' := [(4, .bool true)]) (by kernel_rfl) ?_
                  exact hj0 true
                · refine ok_run 6 (p' := g14p21) (env' := [(4, .bool (eqL a0 [98, 115, 108])), (12, .bool (eqL a0 [98, 115, 108])), (4, .bool false), (4, .bool (eqL a0 [98, 111, 114])), (11, .bool (eqL a0 [98, 111, 114])), (4, .bool false), (4, .bool (eqL a0 [98, 110, 111, 116])), (10, .bool (eqL a0 [98, 110, 111, 116])), (4, .bool false), (4, .bool (eqL a0 g14c2)), (9, .bool (eqL a0 g14c2)), (4, .bool false), (4, .bool (eqL a0 [98, 97, 110, 100])), (8, .bool (eqL a0 [98, 97, 110, 100])), (4, .bool false), (4, .bool (eqL a0 g14c1)), (7, .bool (eqL a0 g14c1)), (4, .bool false), (4, .bool (eqL a0 [97, 110, 100])), (6, .bool (eqL a0 [97, 110, 100])), (4, .bool false), (4, .bool (eqL a0 g14c0)), (5, .bool (eqL a0 g14c0)), (3, .str a0), (2, .bool false), (0, .str a0)]) (H' := (mkH [])) (by kernel_rfl) ?_
                  refine ok_keep [3, 4] (env' := [(3, .str a0), (4, .bool (eqL a0 [98, 115, 108]))]) (by kernel_rfl) ?_
                  refine ok_split 4 (b := eqL a0 [98, 115, 108]) (by kernel_rfl) (fun hb => ?_) (fun hb => ?_)
                  · refine ok_run 2 (p' := g14p4) (env' := [(4, .bool true), (3, .str a0), (4, .bool (eqL a0 [98, 115, 108]))]) (H' := (mkH [])) (by kernel_rfl) ?_
                    refine ok_keep [4] (env' := [(4, .bool true)]) (by kernel_rfl) ?_
                    exact hj0 true
                  · refine ok_run 6 (p' := g14p23) (env' := [(4, .bool (eqL a0 [98, 115, 114])), (13, .bool (eqL a0 [98, 115, 114])), (4, .bool false), (3, .str a0), (4, .bool (eqL a0 [98, 115, 108]))]) (H' := (mkH [])) (by kernel_rfl) ?_
                    refine ok_split 4 (b := eqL a0 [98, 115, 114]) (by kernel_rfl) (fun hb => ?_) (fun hb => ?_)
                    · refine ok_run 2 (p' := g14p4) (env' := [(4, .bool true), (4, .bool (eqL a0 [98, 115, 114])), (13, .bool (eqL a0 [98, 115, 114])), (4, .bool false), (3, .str a0), (4, .bool (eqL a0 [98, 115, 108]))]) (H' := (mkH [])) (by kernel_rfl) ?_
                      refine ok_keep [4] (env' := [(4, .bool true)]) (by kernel_rfl) ?_
                      exact hj0 true
                    · refine ok_run 6 (p' := g14p25) (env' := [(4, .bool (eqL a0 [98, 120, 111, 114])), (14, .bool (eqL a0 [98, 120, 111, 114])), (4, .bool false), (4, .bool (eqL a0 [98, 115, 114])), (13, .bool (eqL a0 [98, 115, 114])), (4, .bool false), (3, .str a0), (4, .bool (eqL a0 [98, 115, 108]))]) (H' := (mkH [])) (by kernel_rfl) ?_
                      refine ok_split 4 (b := eqL a0 [98, 120, 111, 114]) (by kernel_rfl) (fun hb => ?_) (fun hb => ?_)
                      · refine ok_run 2 (p' := g14p4) (env' := [(4, .bool true), (4, .bool (eqL a0 [98, 120, 111, 114])), (14, .bool (eqL a0 [98, 120, 111, 114])), (4, .bool false), (4, .bool (eqL a0 [98, 115, 114])), (13, .bool (eqL a0 [98, 115, 114])), (4, .bool false), (3, .str a0), (4, .bool (eqL a0 [98, 115, 108]))]) (H' := (mkH [])) (by kernel_rfl) ?_
                        refine ok_keep [4] (env' := [(4, .bool true)]) (by kernel_rfl) ?_
                        exact hj0 true
                      · refine ok_run 6 (p' := g14p27) (env' := [(4, .bool (eqL a0 [99, 97, 115, 101])), (15, .bool (eqL a0 [99, 97, 115, 101])), (4, .bool false), (4, .bool (eqL a0 [98, 120, 111, 114])), (14, .bool (eqL a0 [98, 120, 111, 114])), (4, .bool false), (4, .bool (eqL a0 [98, 115, 114])), (13, .bool (eqL a0 [98, 115, 114])), (4, .bool false), (3, .str a0), (4, .bool (eqL a0 [98, 115, 108]))]) (H' := (mkH [])) (by kernel_rfl) ?_
                        refine ok_split 4 (b := eqL a0 [99, 97, 115, 101]) (by kernel_rfl) (fun hb => ?_) (fun hb => ?_)
                        · refine ok_run 2 (p' := g14p4) (env' := [(4, .bool true), (4, .bool (eqL a0 [99, 97, 115, 101])), (15, .bool (eqL a0 [99, 97, 115, 101])), (4, .bool false), (4, .bool (eqL a0 [98, 120, 111, 114])), (14, .bool (eqL a0 [98, 120, 111, 114])), (4, .bool false), (4, .bool (eqL a0 [98, 115, 114])), (13, .bool (eqL a0 [98, 115, 114])), (4, .bool false), (3, .str a0), (4, .bool (eqL a0 [98, 115, 108]))]) (H' := (mkH [])) (by kernel_rfl) ?_
                          refine ok_keep [4] (env' := [(4, .bool true)]) (by kernel_rfl) ?_
                          exact hj0 true
                        · refine ok_run 6 (p' := g14p29) (env' := [(4, .bool (eqL a0 [99, 97, 116, 99, 104])), (16, .bool (eqL a0 [99, 97, 116, 99, 104])), (4, .bool false), (4, .bool (eqL a0 [99, 97, 115, 101])), (15, .bool (eqL a0 [99, 97, 115, 101])), (4, .bool false), (4, .bool (eqL a0 [98, 120, 111, 114])), (14, .bool (eqL a0 [98, 120, 111, 114])), (4, .bool false), (4, .bool (eqL a0 [98, 115, 114])), (13, .bool (eqL a0 [98, 115, 114])), (4, .bool false), (3, .str a0), (4, .bool (eqL a0 [98, 115, 108]))]) (H' := (mkH [])) (by kernel_rfl) ?_
                          refine ok_split 4 (b := eqL a0 [99, 97, 116, 99, 104]) (by kernel_rfl) (fun hb => ?_) (fun hb => ?_)
                          · refine ok_run 2 (p' := g14p4) (env' := [(4, .bool true), (4, .bool (eqL a0 [99, 97, 116, 99, 104])), (16, .bool (eqL a0 [99, 97, 116, 99, 104])), (4, .bool false), (4, .bool (eqL a0 [99, 97, 115, 101])), (15, .bool (eqL a0 [99, 97, 115, 101])), (4, .bool false), (4, .bool (eqL a0 [98, 120, 111, 114])), (14, .bool (eqL a0 [98, 120, 111, 114])), (4, .bool false), (4, .bool (eqL a0 [98, 115, 114])), (13, .bool (eqL a0 [98, 115, 114])), (4, .bool false), (3, .str a0), (4, .bool (eqL a0 [98, 115, 108]))]) (H' := (mkH [])) (by kernel_rfl) ?_
                            refine ok_keep [4] (env' := [(4, .bool true)]) (by kernel_rfl) ?_
                            exact hj0 true
                          · refine ok_run 6 (p' := g14p31) (env' := [(4, .bool (eqL a0 [100, 105, 118])), (17, .bool (eqL a0 [100, 105, 118])), (4, .bool false), (4, .bool (eqL a0 [99, 97, 116, 99, 104])), (16, .bool (eqL a0 [99, 97, 116, 99, 104])), (4, .bool false), (4, .bool (eqL a0 [99, 97, 115, 101])), (15, .bool (eqL a0 [99, 97, 115, 101])), (4, .bool false), (4, .bool (eqL a0 [98, 120, 111, 114])), (14, .bool (eqL a0 [98, 120, 111, 114])), (4, .bool false), (4, .bool (eqL a0 [98, 115, 114])), (13, .bool (eqL a0 [98, 115, 114])), (4, .bool false), (3, .str a0), (4, .bool (eqL a0 [98, 115, 108]))]) (H' := (mkH [])) (by kernel_rfl) ?_
                            refine ok_split 4 (b := eqL a0 [100, 105, 118]) (by kernel_rfl) (fun hb => ?_) (fun hb => ?_)
                            · refine ok_run 2 (p' := g14p4) (env' := [(4, .bool true), (4, .bool (eqL a0 [100, 105, 118])), (17, .bool (eqL a0 [100, 105, 118])), (4, .bool false), (4, .bool (eqL a0 [99, 97, 116, 99, 104])), (16, .bool (eqL a0 [99, 97, 116, 99, 104])), (4, .bool false), (4, .bool (eqL a0 [99, 97, 115, 101])), (15, .bool (eqL a0 [99, 97, 115, 101])), (4, .bool false), (4, .bool (eqL a0 [98, 120, 111, 114])), (14, .bool (eqL a0 [98, 120, 111, 114])), (4, .bool false), (4, .bool (eqL a0 [98, 115, 114])), (13, .bool (eqL a0 [98, 115, 114])), (4, .bool false), (3, .str a0), (4, .bool (eqL a0 [98, 115, 108]))]) (H' := (mkH [])) (by kernel_rfl) ?_
                              refine ok_keep [4] (env' := [(4, .bool true)]) (by kernel_rfl) ?_
                              exact hj0 true
                            · refine ok_run 6 (p' := g14p33) (env' := [(4, .bool (eqL a0 [101, 110, 100])), (18, .bool (eqL a0 [101, 110, 100])), (4, .bool false), (4, .bool (eqL a0 [100, 105, 118])), (17, .bool (eqL a0 [100, 105, 118])), (4, .bool false), (4, .bool (eqL a0 [99, 97, 116, 99, 104])), (16, .bool (eqL a0 [99, 97, 116, 99, 104])), (4, .bool false), (4, .bool (eqL a0 [99, 97, 115, 101])), (15, .bool (eqL a0 [99, 97, 115, 101])), (4, .bool false), (4, .bool (eqL a0 [98, 120, 111, 114])), (14, .bool (eqL a0 [98, 120, 111, 114])), (4, .bool false), (4, .bool (eqL a0 [98, 115, 114])), (13, .bool (eqL a0 [98, 115, 114])), (4, .bool false), (3, .str a0), (4, .bool (eqL a0 [98, 115, 108]))]) (H' := (mkH [])) (by kernel_rfl) ?_
                              refine ok_split 4 (b := eqL a0 [101, 110, 100]) (by kernel_rfl) (fun hb => ?_) (fun hb => ?_)
                              · refine ok_run 2 (p' := g14p4) (env' := [(4, .bool true), (4, .bool (eqL a0 [101, 110, 100])), (18, .bool (eqL a0 [101, 110, 100])), (4, .bool false), (4, .bool (eqL a0 [100, 105, 118])), (17, .bool (eqL a0 [100, 105, 118])), (4, .bool false), (4, .bool (eqL a0 [99, 97, 116, 99, 104])), (16, .bool (eqL a0 [99, 97, 116, 99, 104])), (4, .bool false), (4, .bool (eqL a0 [99, 97, 115, 101])), (15, .bool (eqL a0 [99, 97, 115, 101])), (4, .bool false), (4, .bool (eqL a0 [98, 120, 111, 114])), (14, .bool (eqL a0 [98, 120, 111, 114])), (4, .bool false), (4, .bool (eqL a0 [98, 115, 114])), (13, .bool (eqL a0 [98, 115, 114])), (4, .bool false), (3, .str a0), (4, .bool (eqL a0 [98, 115, 108]))]) (H' := (mkH [])) (by kernel_rfl) ?_
                                refine ok_keep [4] (env' := [(4, .bool true)]) (by kernel_rfl) ?_
                                exact hj0 true
                              · refine ok_run 6 (p' := g14p35) (env' := [(4, .bool (eqL a0 [102, 117, 110])), (19, .bool (eqL a0 [102, 117, 110])), (4, .bool false), (4, .bool (eqL a0 [101, 110, 100])), (18, .bool (eqL a0 [101, 110, 100])), (4, .bool false), (4, .bool (eqL a0 [100, 105, 118])), (17, .bool (eqL a0 [100, 105, 118])), (4, .bool false), (4, .bool (eqL a0 [99, 97, 116, 99, 104])), (16, .bool (eqL a0 [99, 97, 116, 99, 104])), (4, .bool false), (4, .bool (eqL a0 [99, 97, 115, 101])), (15, .bool (eqL a0 [99, 97, 115, 101])), (4, .bool false), (4, .bool (eqL a0 [98, 120, 111, 114])), (14, .bool (eqL a0 [98, 120, 111, 114])), (4, .bool false), (4, .bool (eqL a0 [98, 115, 114])), (13, .bool (eqL a0 [98, 115, 114])), (4, .bool false), (3, .str a0), (4, .bool (eqL a0 [98, 115, 108]))]) (H' := (mkH [])) (by kernel_rfl) ?_
                                refine ok_split 4 (b := eqL a0 [102, 117, 110]) (by kernel_rfl) (fun hb => ?_) (fun hb => ?_)
                                · refine ok_run 2 (p' := g14p4) (env' := [(4, .bool true), (4, .bool (eqL a0 [102, 117, 110])), (19, .bool (eqL a0 [102, 117, 110])), (4, .bool false), (4, .bool (eqL a0 [101, 110, 100])), (18, .bool (eqL a0 [101, 110, 100])), (4, .bool false), (4, .bool (eqL a0 [100, 105, 118])), (17, .bool (eqL a0 [100, 105, 118])), (4, .bool false), (4, .bool (eqL a0 [99, 97, 116, 99, 104])), (16, .bool (eqL a0 [99, 97, 116, 99, 104])), (4, .bool false), (4, .bool (eqL a0 [99, 97, 115, 101])), (15, .bool (eqL a0 [99, 97, 115, 101])), (4, .bool false), (4, .bool (eqL a0 [98, 120, 111, 114])), (14, .bool (eqL a0 [98, 120, 111, 114])), (4, .bool false), (4, .bool (eqL a0 [98, 115, 114])), (13, .bool (eqL a0 [98, 115, 114])), (4, .bool false), (3, .str a0), (4, .bool (eqL a0 [98, 115, 108]))]) (H' := (mkH [])) (by kernel_rfl) ?_
                                  refine ok_keep [4] (env' := [(4, .bool true)]) (by kernel_rfl) ?_
                                  exact hj0 true
                                · refine ok_run 6 (p' := g14p37) (env' := [(4, .bool (eqL a0 [105, 102])), (20, .bool (eqL a0 [105, 102])), (4, .bool false), (4, .bool (eqL a0 [102, 117, 110])), (19, .bool (eqL a0 [102, 117, 110])), (4, .bool false), (4, .bool (eqL a0 [101, 110, 100])), (18, .bool (eqL a0 [101, 110, 100])), (4, .bool false), (4, .bool (eqL a0 [100, 105, 118])), (17, .bool (eqL a0 [100, 105, 118])), (4, .bool false), (4, .bool (eqL a0 [99, 97, 116, 99, 104])), (16, .bool (eqL a0 [99, 97, 116, 99, 104])), (4, .bool false), (4, .bool (eqL a0 [99, 97, 115, 101])), (15, .bool (eqL a0 [99, 97, 115, 101])), (4, .bool false), (4, .bool (eqL a0 [98, 120, 111, 114])), (14, .bool (eqL a0 [98, 120, 111, 114])), (4, .bool false), (4, .bool (eqL a0 [98, 115, 114])), (13, .bool (eqL a0 [98, 115, 114])), (4, .bool false), (3, .str a0), (4, .bool (eqL a0 [98, 115, 108]))]) (H' := (mkH [])) (by kernel_rfl) ?_
                                  refine ok_keep [3, 4] (env' := [(3, .str a0), (4, .bool (eqL a0 [105, 102]))]) (by kernel_rfl) ?_
                                  refine ok_split 4 (b := eqL a0 [105, 102]) (by kernel_rfl) (fun hb => ?_) (fun hb => ?_)
                                  · refine ok_run 2 (p' := g14p4) (env' := [(4, .bool true), (3, .str a0), (4, .bool (eqL a0 [105, 102]))]) (H' := (mkH [])) (by kernel_rfl) ?_
                                    refine ok_keep [4] (env' := [(4, .bool true)]) (by kernel_rfl) ?_
                                    exact hj0 true
                                  · refine ok_run 6 (p' := g14p39) (env' := [(4, .bool (eqL a0 [110, 111, 116])), (21, .bool (eqL a0 [110, 111, 116])), (4, .bool false), (3, .str a0), (4, .bool (eqL a0 [105, 102]))]) (H' := (mkH [])) (by kernel_rfl) ?_
                                    refine ok_split 4 (b := eqL a0 [110, 111, 116]) (by kernel_rfl) (fun hb => ?_) (fun hb => ?_)
                                    · refine ok_run 2 (p' := g14p4) (env' := [(4, .bool true), (4, .bool (eqL a0 [110, 111, 116])), (21, .bool (eqL a0 [110, 111, 116])), (4, .bool false), (3, .str a0), (4, .bool (eqL a0 [105, 102]))]) (H' := (mkH [])) (by kernel_rfl) ?_
                                      refine ok_keep [4] (env' := [(4, .bool true)]) (by kernel_rfl) ?_
                                      exact hj0 true
                                    · refine ok_run 6 (p' := g14p41) (env' := [(4, .bool (eqL a0 [111, 102])), (22, .bool (eqL a0 [111, 102])), (4, .bool false), (4, .bool (eqL a0 [110, 111, 116])), (21, .bool (eqL a0 [110, 111, 116])), (4, .bool false), (3, .str a0), (4, .bool (eqL a0 [105, 102]))]) (H' := (mkH [])) (by kernel_rfl) ?_
                                      refine ok_split 4 (b := eqL a0 [111, 102]) (by kernel_rfl) (fun hb => ?_) (fun hb => ?_)
                                      · refine ok_run 2 (p' := g14p4) (env' := [(4, .bool true), (4, .bool (eqL a0 [111, 102])), (22, .bool (eqL a0 [111, 102])), (4, .bool false), (4, .bool (eqL a0 [110, 111, 116])), (21, .bool (eqL a0 [110, 111, 116])), (4, .bool false), (3, .str a0), (4, .bool (eqL a0 [105, 102]))]) (H' := (mkH [])) (by kernel_rfl) ?_
                                        refine ok_keep [4] (env' := [(4, .bool true)]) (by kernel_rfl) ?_
                                        exact hj0 true
                                      · refine ok_run 6 (p' := g14p43) (env' := [(4, .bool (eqL a0 [111, 114])), (23, .bool (eqL a0 [111, 114])), (4, .bool false), (4, .bool (eqL a0 [111, 102])), (22, .bool (eqL a0 [111, 102])), (4, .bool false), (4, .bool (eqL a0 [110, 111, 116])), (21, .bool (eqL a0 [110, 111, 116])), (4, .bool false), (3, .str a0), (4, .bool (eqL a0 [105, 102]))]) (H' := (mkH [])) (by kernel_rfl) ?_
                                        refine ok_split 4 (b := eqL a0 [111, 114]) (by kernel_rfl) (fun hb => ?_) (fun hb => ?_)
                                        · refine ok_run 2 (p' := g14p4) (env' := [(4, .bool true), (4, .bool (eqL a0 [111, 114])), (23, .bool (eqL a0 [111, 114])), (4, .bool false), (4, .bool (eqL a0 [111, 102])), (22, .bool (eqL a0 [111, 102])), (4, .bool false), (4, .bool (eqL a0 [110, 111, 116])), (21, .bool (eqL a0 [110, 111, 116])), (4, .bool false), (3, .str a0), (4, .bool (eqL a0 [105, 102]))]) (H' := (mkH [])) (by kernel_rfl) ?_
                                          refine ok_keep [4] (env' := [(4, .bool true)]) (by kernel_rfl) ?_
                                          exact hj0 true
                                        · refine ok_run 6 (p' := g14p45) (env' := [(4, .bool (eqL a0 g14c3)), (24, .bool (eqL a0 g14c3)), (4, .bool false), (4, .bool (eqL a0 [111, 114])), (23, .bool (eqL a0 [111, 114])), (4, .bool false), (4, .bool (eqL a0 [111, 102])), (22, .bool (eqL a0 [111, 102])), (4, .bool false), (4, .bool (eqL a0 [110, 111, 116])), (21, .bool (eqL a0 [110, 111, 116])), (4, .bool false), (3, .str a0), (4, .bool (eqL a0 [105, 102]))]) (H' := (mkH [])) (by kernel_rfl) ?_
                                          refine ok_split 4 (b := eqL a0 g14c3) (by kernel_rfl) (fun hb => ?_) (fun hb => ?_)
                                          · refine ok_run 2 (p' := g14p4) (env' := [(4, .bool true), (4, .bool (eqL a0 g14c3)), (24, .bool (eqL a0 g14c3)), (4, .bool false), (4, .bool (eqL a0 [111, 114])), (23, .bool (eqL a0 [111, 114])), (4, .bool false), (4, .bool (eqL a0 [111, 102])), (22, .bool (eqL a0 [111, 102])), (4, .bool false), (4, .bool (eqL a0 [110, 111, 116])), (21, .bool (eqL a0 [110, 111, 116])), (4, .bool false), (3, .str a0), (4, .bool (eqL a0 [105, 102]))]) (H' := (mkH [])) (by kernel_rfl) ?_
                                            refine ok_keep [4] (env' := [(4, .bool true)]) (by kernel_rfl) ?_
                                            exact hj0 true
                                          · refine ok_run 6 (p' := g14p47) (env' := [(4, .bool (eqL a0 g14c4)), (25, .bool (eqL a0 g14c4)), (4, .bool false), (4, .bool (eqL a0 g14c3)), (24, .bool (eqL a0 g14c3)), (4, .bool false), (4, .bool (eqL a0 [111, 114])), (23, .bool (eqL a0 [111, 114])), (4, .bool false), (4, .bool (eqL a0 [111, 102])), (22, .bool (eqL a0 [111, 102])), (4, .bool false), (4, .bool (eqL a0 [110, 111, 116])), (21, .bool (eqL a0 [110, 111, 116])), (4, .bool false), (3, .str a0), (4, .bool (eqL a0 [105, 102]))]) (H' := (mkH [])) (by kernel_rfl) ?_
                                            refine ok_split 4 (b := eqL a0 g14c4) (by kernel_rfl) (fun hb => ?_) (fun hb => ?_)
                                            · refine ok_run 2 (p' := g14p4) (env' := [(4, .bool true), (4, .bool (eqL a0 g14c4)), (25, .bool (eqL a0 g14c4)), (4, .bool false), (4, .bool (eqL a0 g14c3)), (24, .bool (eqL a0 g14c3)), (4, .bool false), (4, .bool (eqL a0 [111, 114])), (23, .bool (eqL a0 [111, 114])), (4, .bool false), (4, .bool (eqL a0 [111, 102])), (22, .bool (eqL a0 [111, 102])), (4, .bool false), (4, .bool (eqL a0 [110, 111, 116])), (21, .bool (eqL a0 [110, 111, 116])), (4, .bool false), (3, .str a0), (4, .bool (eqL a0 [105, 102]))]) (H' := (mkH [])) (by kernel_rfl) ?_
                                              refine ok_keep [4] (env' := [(4, .bool true)]) (by kernel_rfl) ?_
                                              exact hj0 true
                                            · refine ok_run 6 (p' := g14p49) (env' := [(4, .bool (eqL a0 [114, 101, 109])), (26, .bool (eqL a0 [114, 101, 109])), (4, .bool false), (4, .bool (eqL a0 g14c4)), (25, .bool (eqL a0 g14c4)), (4, .bool false), (4, .bool (eqL a0 g14c3)), (24, .bool (eqL a0 g14c3)), (4, .bool false), (4, .bool (eqL a0 [111, 114])), (23, .bool (eqL a0 [111, 114])), (4, .bool false), (4, .bool (eqL a0 [111, 102])), (22, .bool (eqL a0 [111, 102])), (4, .bool false), (4, .bool (eqL a0 [110, 111, 116])), (21, .bool (eqL a0 [110, 111, 116])), (4, .bool false), (3, .str a0), (4, .bool (eqL a0 [105, 102]))]) (H' := (mkH [])) (by kernel_rfl) ?_
                                              refine ok_split 4 (b := eqL a0 [114, 101, 109]) (by kernel_rfl) (fun hb => ?_) (fun hb => ?_)
                                              · refine ok_run 2 (p' := g14p4) (env' := [(4, .bool true), (4, .bool (eqL a0 [114, 101, 109])), (26, .bool (eqL a0 [114, 101, 109])), (4, .bool false), (4, .bool (eqL a0 g14c4)), (25, .bool (eqL a0 g14c4)), (4, .bool false), (4, .bool (eqL a0 g14c3)), (24, .bool (eqL a0 g14c3)), (4, .bool false), (4, .bool (eqL a0 [111, 114])), (23, .bool (eqL a0 [111, 114])), (4, .bool false), (4, .bool (eqL a0 [111, 102])), (22, .bool (eqL a0 [111, 102])), (4, .bool false), (4, .bool (eqL a0 [110, 111, 116])), (21, .bool (eqL a0 [110, 111, 116])), (4, .bool false), (3, .str a0), (4, .bool (eqL a0 [105, 102]))]) (H' := (mkH [])) (by kernel_rfl) ?_
                                                refine ok_keep [4] (env' := [(4, .bool true)]) (by kernel_rfl) ?_
                                                exact hj0 true
                                              · refine ok_run 6 (p' := g14p51) (env' := [(4, .bool (eqL a0 [119, 104, 101, 110])), (27, .bool (eqL a0 [119, 104, 101, 110])), (4, .bool false), (4, .bool (eqL a0 [114, 101, 109])), (26, .bool (eqL a0 [114, 101, 109])), (4, .bool false), (4, .bool (eqL a0 g14c4)), (25, .bool (eqL a0 g14c4)), (4, .bool false), (4, .bool (eqL a0 g14c3)), (24, .bool (eqL a0 g14c3)), (4, .bool false), (4, .bool (eqL a0 [111, 114])), (23, .bool (eqL a0 [111, 114])), (4, .bool false), (4, .bool (eqL a0 [111, 102])), (22, .bool (eqL a0 [111, 102])), (4, .bool false), (4, .bool (eqL a0 [110, 111, 116])), (21, .bool (eqL a0 [110, 111, 116])), (4, .bool false), (3, .str a0), (4, .bool (eqL a0 [105, 102]))]) (H' := (mkH [])) (by kernel_rfl) ?_
                                                refine ok_split 4 (b := eqL a0 [119, 104, 101, 110]) (by kernel_rfl) (fun hb => ?_) (fun hb => ?_)
                                                · refine ok_run 2 (p' := g14p4) (env' := [(4, .bool true), (4, .bool (eqL a0 [119, 104, 101, 110])), (27, .bool (eqL a0 [119, 104, 101, 110])), (4, .bool false), (4, .bool (eqL a0 [114, 101, 109])), (26, .bool (eqL a0 [114, 101, 109])), (4, .bool false), (4, .bool (eqL a0 g14c4)), (25, .bool (eqL a0 g14c4)), (4, .bool false), (4, .bool (eqL a0 g14c3)), (24, .bool (eqL a0 g14c3)), (4, .bool false), (4, .bool (eqL a0 [111, 114])), (23, .bool (eqL a0 [111, 114])), (4, .bool false), (4, .bool (eqL a0 [111, 102])), (22, .bool (eqL a0 [111, 102])), (4, .bool false), (4, .bool (eqL a0 [110, 111, 116])), (21, .bool (eqL a0 [110, 111, 116])), (4, .bool false), (3, .str a0), (4, .bool (eqL a0 [105, 102]))]) (H' := (mkH [])) (by kernel_rfl) ?_
                                                  refine ok_keep [4] (env' := [(4, .bool true)]) (by kernel_rfl) ?_
                                                  exact hj0 true
                                                · refine ok_run 5 (p' := g14p4) (env' := [(4, .bool (eqL a0 [120, 111, 114])), (28, .bool (eqL a0 [120, 111, 114])), (4, .bool false), (4, .bool (eqL a0 [119, 104, 101, 110])), (27, .bool (eqL a0 [119, 104, 101, 110])), (4, .bool false), (4, .bool (eqL a0 [114, 101, 109])), (26, .bool (eqL a0 [114, 101, 109])), (4, .bool false), (4, .bool (eqL a0 g14c4)), (25, .bool (eqL a0 g14c4)), (4, .bool false), (4, .bool (eqL a0 g14c3)), (24, .bool (eqL a0 g14c3)), (4, .bool false), (4, .bool (eqL a0 [111, 114])), (23, .bool (eqL a0 [111, 114])), (4, .bool false), (4, .bool (eqL a0 [111, 102])), (22, .bool (eqL a0 [111, 102])), (4, .bool false), (4, .bool (eqL a0 [110, 111, 116])), (21, .bool (eqL a0 [110, 111, 116])), (4, .bool false), (3, .str a0), (4, .bool (eqL a0 [105, 102]))]) (H' := (mkH [])) (by kernel_rfl) ?_
                                                  refine ok_keep [4] (env' := [(4, .bool (eqL a0 [120, 111, 114]))]) (by kernel_rfl) ?_
                                                  exact hj0 (eqL a0 [120, 111, 114])
end Go.Proofs.Ytnikdnchoahngaa.Am
