/- Function 40, plain, and that the program computes it. Printed by gen.py. -/
import Derived.Test.YtokcjgjgojlhbaaTy
set_option maxRecDepth 100000
set_option linter.unusedVariables false
namespace Go.Proofs.Ytokcjgjgojlhbaa.Am
open Go

/-! 40 galley/word.Reserved -/
noncomputable def X40 : Fx Bool := ⟨Try.prog, cx, Try.f40, fun r => .bool r, 0, fun _ => H0, cxTi, cxOrd⟩
def g40c0 : List Nat := [97, 102, 116, 101, 114]
def g40c1 : List Nat := [97, 110, 100, 97, 108, 115, 111]
def g40c2 : List Nat := [98, 101, 103, 105, 110]
def g40c3 : List Nat := [111, 114, 101, 108, 115, 101]
def g40c4 : List Nat := [114, 101, 99, 101, 105, 118, 101]
noncomputable def g40p0 : Pt := nav [0] (bodyAt Try.f40)
noncomputable def g40p1 : Pt := nav [0, 0, 0, 0] g40p0
noncomputable def g40p2 : Pt := nav [0, 0, 0, 0, 0] g40p1
noncomputable def g40p3 : Pt := nav [0, 0] g40p2
noncomputable def g40p4 : Pt := nav [1, 0] g40p3
noncomputable def g40p5 : Pt := nav [2, 0] g40p3
noncomputable def g40p6 : Pt := nav [1, 0] g40p4
noncomputable def g40p7 : Pt := nav [2, 0, 0] g40p4
noncomputable def g40p8 : Pt := nav [0, 0] g40p5
noncomputable def g40p10 : Pt := nav [2, 0] g40p8
noncomputable def g40p11 : Pt := nav [0, 0] g40p10
noncomputable def g40p12 : Pt := nav [2, 0] g40p11
noncomputable def g40p13 : Pt := nav [0, 0] g40p12
noncomputable def g40p14 : Pt := nav [2, 0] g40p13
noncomputable def g40p15 : Pt := nav [0, 0] g40p14
noncomputable def g40p16 : Pt := nav [2, 0] g40p15
noncomputable def g40p17 : Pt := nav [0, 0] g40p16
noncomputable def g40p18 : Pt := nav [2, 0] g40p17
noncomputable def g40p19 : Pt := nav [0, 0] g40p18
noncomputable def g40p20 : Pt := nav [2, 0] g40p19
noncomputable def g40p21 : Pt := nav [0, 0] g40p20
noncomputable def g40p22 : Pt := nav [2, 0] g40p21
noncomputable def g40p23 : Pt := nav [0, 0] g40p22
noncomputable def g40p24 : Pt := nav [2, 0] g40p23
noncomputable def g40p25 : Pt := nav [0, 0] g40p24
noncomputable def g40p26 : Pt := nav [2, 0] g40p25
noncomputable def g40p27 : Pt := nav [0, 0] g40p26
noncomputable def g40p28 : Pt := nav [2, 0] g40p27
noncomputable def g40p29 : Pt := nav [0, 0] g40p28
noncomputable def g40p30 : Pt := nav [2, 0] g40p29
noncomputable def g40p31 : Pt := nav [0, 0] g40p30
noncomputable def g40p32 : Pt := nav [2, 0] g40p31
noncomputable def g40p33 : Pt := nav [0, 0] g40p32
noncomputable def g40p34 : Pt := nav [2, 0] g40p33
noncomputable def g40p35 : Pt := nav [0, 0] g40p34
noncomputable def g40p36 : Pt := nav [2, 0] g40p35
noncomputable def g40p37 : Pt := nav [0, 0] g40p36
noncomputable def g40p38 : Pt := nav [2, 0] g40p37
noncomputable def g40p39 : Pt := nav [0, 0] g40p38
noncomputable def g40p40 : Pt := nav [2, 0] g40p39
noncomputable def g40p41 : Pt := nav [0, 0] g40p40
noncomputable def g40p42 : Pt := nav [2, 0] g40p41
noncomputable def g40p43 : Pt := nav [0, 0] g40p42
noncomputable def g40p44 : Pt := nav [2, 0] g40p43
noncomputable def g40p45 : Pt := nav [0, 0] g40p44
noncomputable def g40p46 : Pt := nav [2, 0] g40p45
noncomputable def g40p47 : Pt := nav [0, 0] g40p46
noncomputable def g40p48 : Pt := nav [2, 0] g40p47
noncomputable def g40p49 : Pt := nav [0, 0] g40p48
noncomputable def g40p50 : Pt := nav [2, 0] g40p49
noncomputable def g40p51 : Pt := nav [0, 0] g40p50
noncomputable def g40p52 : Pt := nav [2] g40p51
noncomputable def g40 (k : Nat) (a0 : (List Nat)) : Option Bool :=
  jn (fun (z0 : Bool) => if z0 then (some true) else (some false)) (fun j0 => if (eqL a0 g40c0) then (j0 true) else (if (eqL a0 [97, 110, 100]) then (j0 true) else (if (eqL a0 g40c1) then (j0 true) else (if (eqL a0 [98, 97, 110, 100]) then (j0 true) else (if (eqL a0 g40c2) then (j0 true) else (if (eqL a0 [98, 110, 111, 116]) then (j0 true) else (if (eqL a0 [98, 111, 114]) then (j0 true) else (if (eqL a0 [98, 115, 108]) then (j0 true) else (if (eqL a0 [98, 115, 114]) then (j0 true) else (if (eqL a0 [98, 120, 111, 114]) then (j0 true) else (if (eqL a0 [99, 97, 115, 101]) then (j0 true) else (if (eqL a0 [99, 97, 116, 99, 104]) then (j0 true) else (if (eqL a0 [100, 105, 118]) then (j0 true) else (if (eqL a0 [101, 110, 100]) then (j0 true) else (if (eqL a0 [102, 117, 110]) then (j0 true) else (if (eqL a0 [105, 102]) then (j0 true) else (if (eqL a0 [110, 111, 116]) then (j0 true) else (if (eqL a0 [111, 102]) then (j0 true) else (if (eqL a0 [111, 114]) then (j0 true) else (if (eqL a0 g40c3) then (j0 true) else (if (eqL a0 g40c4) then (j0 true) else (if (eqL a0 [114, 101, 109]) then (j0 true) else (if (eqL a0 [119, 104, 101, 110]) then (j0 true) else (j0 (eqL a0 [120, 111, 114])))))))))))))))))))))))))
theorem g40_ok (k : Nat) (a0 : (List Nat)) (r : Bool) (h : g40 k a0 = some r) : PureOk Try.prog 40 [.str a0] (.bool r) := by
  refine pure_of X40 (fun _ => rfl) Try.func40 (by decide +kernel) (by kernel_rfl) (t := g40 k a0) ?_ h
  unfold g40
  refine ok_env (env' := [(0, .str a0)]) (by kernel_rfl) ?_
  let E1 : Env := [(4, .bool (eqL a0 g40c0)), (5, .bool (eqL a0 g40c0)), (3, .str a0), (2, .bool false), (0, .str a0)]
  refine ok_run 16 (p' := g40p3) (env' := E1) (H' := (mkH [])) (by kernel_rfl) ?_
  refine ok_jn (f := fun (z0 : Bool) => if z0 then (some true) else (some false)) g40p4 (fun (z0 : Bool) => [(4, .bool z0)]) (fun (z0 : Bool) => (mkH [])) (fun z0 => ?_) (fun j0 hj0 => ?_)
  · refine ok_split 4 (b := z0) (by kernel_rfl) (fun hb => ?_) (fun hb => ?_)
    · refine ok_run 6 (p' := .fin) (env' := [(2, .bool true), (4, .bool true), (4, .bool z0)]) (H' := (mkH [])) (by kernel_rfl) ?_
      exact ok_ret (r := true) (xs := [.bool true]) (v := .bool true) (by kernel_rfl) (by kernel_rfl) (by kernel_rfl) (.pures (by kernel_rfl)) (by kernel_rfl)
    · refine ok_run 7 (p' := .fin) (env' := [(2, .bool false), (4, .bool false), (4, .bool z0)]) (H' := (mkH [])) (by kernel_rfl) ?_
      exact ok_ret (r := false) (xs := [.bool false]) (v := .bool false) (by kernel_rfl) (by kernel_rfl) (by kernel_rfl) (.pures (by kernel_rfl)) (by kernel_rfl)
  · refine ok_split 4 (b := eqL a0 g40c0) (by kernel_rfl) (fun hb => ?_) (fun hb => ?_)
    · refine ok_run 2 (p' := g40p4) (env' := ((4, .bool true) :: E1)) (H' := (mkH [])) (by kernel_rfl) ?_
      refine ok_keep [4] (env' := [(4, .bool true)]) (by kernel_rfl) ?_
      exact hj0 true
    · refine ok_run 6 (p' := g40p8) (env' := ((4, .bool (eqL a0 [97, 110, 100])) :: (6, .bool (eqL a0 [97, 110, 100])) :: (4, .bool false) :: E1)) (H' := (mkH [])) (by kernel_rfl) ?_
      refine ok_split 4 (b := eqL a0 [97, 110, 100]) (by kernel_rfl) (fun hb => ?_) (fun hb => ?_)
      · refine ok_run 2 (p' := g40p4) (env' := ((4, .bool true) :: (4, .bool (eqL a0 [97, 110, 100])) :: (6, .bool (eqL a0 [97, 110, 100])) :: (4, .bool false) :: E1)) (H' := (mkH [])) (by kernel_rfl) ?_
        refine ok_keep [4] (env' := [(4, .bool true)]) (by kernel_rfl) ?_
        exact hj0 true
      · let E2 : Env := ((4, .bool (eqL a0 g40c1)) :: (7, .bool (eqL a0 g40c1)) :: (4, .bool false) :: (4, .bool (eqL a0 [97, 110, 100])) :: (6, .bool (eqL a0 [97, 110, 100])) :: (4, .bool false) :: E1)
        refine ok_run 6 (p' := g40p11) (env' := E2) (H' := (mkH [])) (by kernel_rfl) ?_
        refine ok_keep [3, 4] (env' := [(3, .str a0), (4, .bool (eqL a0 g40c1))]) (by kernel_rfl) ?_
        refine ok_split 4 (b := eqL a0 g40c1) (by kernel_rfl) (fun hb => ?_) (fun hb => ?_)
        · refine ok_run 2 (p' := g40p4) (env' := [(4, .bool true), (3, .str a0), (4, .bool (eqL a0 g40c1))]) (H' := (mkH [])) (by kernel_rfl) ?_
          refine ok_keep [4] (env' := [(4, .bool true)]) (by kernel_rfl) ?_
          exact hj0 true
        · let E3 : Env := [(4, .bool (eqL a0 [98, 97, 110, 100])), (8, .bool (eqL a0 [98, 97, 110, 100])), (4, .bool false), (3, .str a0), (4, .bool (eqL a0 g40c1))]
          refine ok_run 6 (p' := g40p13) (env' := E3) (H' := (mkH [])) (by kernel_rfl) ?_
          refine ok_split 4 (b := eqL a0 [98, 97, 110, 100]) (by kernel_rfl) (fun hb => ?_) (fun hb => ?_)
          · refine ok_run 2 (p' := g40p4) (env' := ((4, .bool true) :: E3)) (H' := (mkH [])) (by kernel_rfl) ?_
            refine ok_keep [4] (env' := [(4, .bool true)]) (by kernel_rfl) ?_
            exact hj0 true
          · refine ok_run 6 (p' := g40p15) (env' := ((4, .bool (eqL a0 g40c2)) :: (9, .bool (eqL a0 g40c2)) :: (4, .bool false) :: E3)) (H' := (mkH [])) (by kernel_rfl) ?_
            refine ok_split 4 (b := eqL a0 g40c2) (by kernel_rfl) (fun hb => ?_) (fun hb => ?_)
            · refine ok_run 2 (p' := g40p4) (env' := ((4, .bool true) :: (4, .bool (eqL a0 g40c2)) :: (9, .bool (eqL a0 g40c2)) :: (4, .bool false) :: E3)) (H' := (mkH [])) (by kernel_rfl) ?_
              refine ok_keep [4] (env' := [(4, .bool true)]) (by kernel_rfl) ?_
              exact hj0 true
            · let E4 : Env := ((4, .bool (eqL a0 [98, 110, 111, 116])) :: (10, .bool (eqL a0 [98, 110, 111, 116])) :: (4, .bool false) :: (4, .bool (eqL a0 g40c2)) :: (9, .bool (eqL a0 g40c2)) :: (4, .bool false) :: E3)
              refine ok_run 6 (p' := g40p17) (env' := E4) (H' := (mkH [])) (by kernel_rfl) ?_
              refine ok_keep [3, 4] (env' := [(3, .str a0), (4, .bool (eqL a0 [98, 110, 111, 116]))]) (by kernel_rfl) ?_
              refine ok_split 4 (b := eqL a0 [98, 110, 111, 116]) (by kernel_rfl) (fun hb => ?_) (fun hb => ?_)
              · refine ok_run 2 (p' := g40p4) (env' := [(4, .bool true), (3, .str a0), (4, .bool (eqL a0 [98, 110, 111, 116]))]) (H' := (mkH [])) (by kernel_rfl) ?_
                refine ok_keep [4] (env' := [(4, .bool true)]) (by kernel_rfl) ?_
                exact hj0 true
              · let E5 : Env := [(4, .bool (eqL a0 [98, 111, 114])), (11, .bool (eqL a0 [98, 111, 114])), (4, .bool false), (3, .str a0), (4, .bool (eqL a0 [98, 110, 111, 116]))]
                refine ok_run 6 (p' := g40p19) (env' := E5) (H' := (mkH [])) (by kernel_rfl) ?_
                refine ok_split 4 (b := eqL a0 [98, 111, 114]) (by kernel_rfl) (fun hb => ?_) (fun hb => ?_)
                · refine ok_run 2 (p' := g40p4) (env' := ((4, .bool true) :: E5)) (H' := (mkH [])) (by kernel_rfl) ?_
                  refine ok_keep [4] (env' := [(4, .bool true)]) (by kernel_rfl) ?_
                  exact hj0 true
                · refine ok_run 6 (p' := g40p21) (env' := ((4, .bool (eqL a0 [98, 115, 108])) :: (12, .bool (eqL a0 [98, 115, 108])) :: (4, .bool false) :: E5)) (H' := (mkH [])) (by kernel_rfl) ?_
                  refine ok_split 4 (b := eqL a0 [98, 115, 108]) (by kernel_rfl) (fun hb => ?_) (fun hb => ?_)
                  · refine ok_run 2 (p' := g40p4) (env' := ((4, .bool true) :: (4, .bool (eqL a0 [98, 115, 108])) :: (12, .bool (eqL a0 [98, 115, 108])) :: (4, .bool false) :: E5)) (H' := (mkH [])) (by kernel_rfl) ?_
                    refine ok_keep [4] (env' := [(4, .bool true)]) (by kernel_rfl) ?_
                    exact hj0 true
                  · let E6 : Env := ((4, .bool (eqL a0 [98, 115, 114])) :: (13, .bool (eqL a0 [98, 115, 114])) :: (4, .bool false) :: (4, .bool (eqL a0 [98, 115, 108])) :: (12, .bool (eqL a0 [98, 115, 108])) :: (4, .bool false) :: E5)
                    refine ok_run 6 (p' := g40p23) (env' := E6) (H' := (mkH [])) (by kernel_rfl) ?_
                    refine ok_keep [3, 4] (env' := [(3, .str a0), (4, .bool (eqL a0 [98, 115, 114]))]) (by kernel_rfl) ?_
                    refine ok_split 4 (b := eqL a0 [98, 115, 114]) (by kernel_rfl) (fun hb => ?_) (fun hb => ?_)
                    · refine ok_run 2 (p' := g40p4) (env' := [(4, .bool true), (3, .str a0), (4, .bool (eqL a0 [98, 115, 114]))]) (H' := (mkH [])) (by kernel_rfl) ?_
                      refine ok_keep [4] (env' := [(4, .bool true)]) (by kernel_rfl) ?_
                      exact hj0 true
                    · let E7 : Env := [(4, .bool (eqL a0 [98, 120, 111, 114])), (14, .bool (eqL a0 [98, 120, 111, 114])), (4, .bool false), (3, .str a0), (4, .bool (eqL a0 [98, 115, 114]))]
                      refine ok_run 6 (p' := g40p25) (env' := E7) (H' := (mkH [])) (by kernel_rfl) ?_
                      refine ok_split 4 (b := eqL a0 [98, 120, 111, 114]) (by kernel_rfl) (fun hb => ?_) (fun hb => ?_)
                      · refine ok_run 2 (p' := g40p4) (env' := ((4, .bool true) :: E7)) (H' := (mkH [])) (by kernel_rfl) ?_
                        refine ok_keep [4] (env' := [(4, .bool true)]) (by kernel_rfl) ?_
                        exact hj0 true
                      · refine ok_run 6 (p' := g40p27) (env' := ((4, .bool (eqL a0 [99, 97, 115, 101])) :: (15, .bool (eqL a0 [99, 97, 115, 101])) :: (4, .bool false) :: E7)) (H' := (mkH [])) (by kernel_rfl) ?_
                        refine ok_split 4 (b := eqL a0 [99, 97, 115, 101]) (by kernel_rfl) (fun hb => ?_) (fun hb => ?_)
                        · refine ok_run 2 (p' := g40p4) (env' := ((4, .bool true) :: (4, .bool (eqL a0 [99, 97, 115, 101])) :: (15, .bool (eqL a0 [99, 97, 115, 101])) :: (4, .bool false) :: E7)) (H' := (mkH [])) (by kernel_rfl) ?_
                          refine ok_keep [4] (env' := [(4, .bool true)]) (by kernel_rfl) ?_
                          exact hj0 true
                        · let E8 : Env := ((4, .bool (eqL a0 [99, 97, 116, 99, 104])) :: (16, .bool (eqL a0 [99, 97, 116, 99, 104])) :: (4, .bool false) :: (4, .bool (eqL a0 [99, 97, 115, 101])) :: (15, .bool (eqL a0 [99, 97, 115, 101])) :: (4, .bool false) :: E7)
                          refine ok_run 6 (p' := g40p29) (env' := E8) (H' := (mkH [])) (by kernel_rfl) ?_
                          refine ok_keep [3, 4] (env' := [(3, .str a0), (4, .bool (eqL a0 [99, 97, 116, 99, 104]))]) (by kernel_rfl) ?_
                          refine ok_split 4 (b := eqL a0 [99, 97, 116, 99, 104]) (by kernel_rfl) (fun hb => ?_) (fun hb => ?_)
                          · refine ok_run 2 (p' := g40p4) (env' := [(4, .bool true), (3, .str a0), (4, .bool (eqL a0 [99, 97, 116, 99, 104]))]) (H' := (mkH [])) (by kernel_rfl) ?_
                            refine ok_keep [4] (env' := [(4, .bool true)]) (by kernel_rfl) ?_
                            exact hj0 true
                          · let E9 : Env := [(4, .bool (eqL a0 [100, 105, 118])), (17, .bool (eqL a0 [100, 105, 118])), (4, .bool false), (3, .str a0), (4, .bool (eqL a0 [99, 97, 116, 99, 104]))]
                            refine ok_run 6 (p' := g40p31) (env' := E9) (H' := (mkH [])) (by kernel_rfl) ?_
                            refine ok_split 4 (b := eqL a0 [100, 105, 118]) (by kernel_rfl) (fun hb => ?_) (fun hb => ?_)
                            · refine ok_run 2 (p' := g40p4) (env' := ((4, .bool true) :: E9)) (H' := (mkH [])) (by kernel_rfl) ?_
                              refine ok_keep [4] (env' := [(4, .bool true)]) (by kernel_rfl) ?_
                              exact hj0 true
                            · refine ok_run 6 (p' := g40p33) (env' := ((4, .bool (eqL a0 [101, 110, 100])) :: (18, .bool (eqL a0 [101, 110, 100])) :: (4, .bool false) :: E9)) (H' := (mkH [])) (by kernel_rfl) ?_
                              refine ok_split 4 (b := eqL a0 [101, 110, 100]) (by kernel_rfl) (fun hb => ?_) (fun hb => ?_)
                              · refine ok_run 2 (p' := g40p4) (env' := ((4, .bool true) :: (4, .bool (eqL a0 [101, 110, 100])) :: (18, .bool (eqL a0 [101, 110, 100])) :: (4, .bool false) :: E9)) (H' := (mkH [])) (by kernel_rfl) ?_
                                refine ok_keep [4] (env' := [(4, .bool true)]) (by kernel_rfl) ?_
                                exact hj0 true
                              · let E10 : Env := ((4, .bool (eqL a0 [102, 117, 110])) :: (19, .bool (eqL a0 [102, 117, 110])) :: (4, .bool false) :: (4, .bool (eqL a0 [101, 110, 100])) :: (18, .bool (eqL a0 [101, 110, 100])) :: (4, .bool false) :: E9)
                                refine ok_run 6 (p' := g40p35) (env' := E10) (H' := (mkH [])) (by kernel_rfl) ?_
                                refine ok_keep [3, 4] (env' := [(3, .str a0), (4, .bool (eqL a0 [102, 117, 110]))]) (by kernel_rfl) ?_
                                refine ok_split 4 (b := eqL a0 [102, 117, 110]) (by kernel_rfl) (fun hb => ?_) (fun hb => ?_)
                                · refine ok_run 2 (p' := g40p4) (env' := [(4, .bool true), (3, .str a0), (4, .bool (eqL a0 [102, 117, 110]))]) (H' := (mkH [])) (by kernel_rfl) ?_
                                  refine ok_keep [4] (env' := [(4, .bool true)]) (by kernel_rfl) ?_
                                  exact hj0 true
                                · let E11 : Env := [(4, .bool (eqL a0 [105, 102])), (20, .bool (eqL a0 [105, 102])), (4, .bool false), (3, .str a0), (4, .bool (eqL a0 [102, 117, 110]))]
                                  refine ok_run 6 (p' := g40p37) (env' := E11) (H' := (mkH [])) (by kernel_rfl) ?_
                                  refine ok_split 4 (b := eqL a0 [105, 102]) (by kernel_rfl) (fun hb => ?_) (fun hb => ?_)
                                  · refine ok_run 2 (p' := g40p4) (env' := ((4, .bool true) :: E11)) (H' := (mkH [])) (by kernel_rfl) ?_
                                    refine ok_keep [4] (env' := [(4, .bool true)]) (by kernel_rfl) ?_
                                    exact hj0 true
                                  · refine ok_run 6 (p' := g40p39) (env' := ((4, .bool (eqL a0 [110, 111, 116])) :: (21, .bool (eqL a0 [110, 111, 116])) :: (4, .bool false) :: E11)) (H' := (mkH [])) (by kernel_rfl) ?_
                                    refine ok_split 4 (b := eqL a0 [110, 111, 116]) (by kernel_rfl) (fun hb => ?_) (fun hb => ?_)
                                    · refine ok_run 2 (p' := g40p4) (env' := ((4, .bool true) :: (4, .bool (eqL a0 [110, 111, 116])) :: (21, .bool (eqL a0 [110, 111, 116])) :: (4, .bool false) :: E11)) (H' := (mkH [])) (by kernel_rfl) ?_
                                      refine ok_keep [4] (env' := [(4, .bool true)]) (by kernel_rfl) ?_
                                      exact hj0 true
                                    · let E12 : Env := ((4, .bool (eqL a0 [111, 102])) :: (22, .bool (eqL a0 [111, 102])) :: (4, .bool false) :: (4, .bool (eqL a0 [110, 111, 116])) :: (21, .bool (eqL a0 [110, 111, 116])) :: (4, .bool false) :: E11)
                                      refine ok_run 6 (p' := g40p41) (env' := E12) (H' := (mkH [])) (by kernel_rfl) ?_
                                      refine ok_keep [3, 4] (env' := [(3, .str a0), (4, .bool (eqL a0 [111, 102]))]) (by kernel_rfl) ?_
                                      refine ok_split 4 (b := eqL a0 [111, 102]) (by kernel_rfl) (fun hb => ?_) (fun hb => ?_)
                                      · refine ok_run 2 (p' := g40p4) (env' := [(4, .bool true), (3, .str a0), (4, .bool (eqL a0 [111, 102]))]) (H' := (mkH [])) (by kernel_rfl) ?_
                                        refine ok_keep [4] (env' := [(4, .bool true)]) (by kernel_rfl) ?_
                                        exact hj0 true
                                      · let E13 : Env := [(4, .bool (eqL a0 [111, 114])), (23, .bool (eqL a0 [111, 114])), (4, .bool false), (3, .str a0), (4, .bool (eqL a0 [111, 102]))]
                                        refine ok_run 6 (p' := g40p43) (env' := E13) (H' := (mkH [])) (by kernel_rfl) ?_
                                        refine ok_split 4 (b := eqL a0 [111, 114]) (by kernel_rfl) (fun hb => ?_) (fun hb => ?_)
                                        · refine ok_run 2 (p' := g40p4) (env' := ((4, .bool true) :: E13)) (H' := (mkH [])) (by kernel_rfl) ?_
                                          refine ok_keep [4] (env' := [(4, .bool true)]) (by kernel_rfl) ?_
                                          exact hj0 true
                                        · refine ok_run 6 (p' := g40p45) (env' := ((4, .bool (eqL a0 g40c3)) :: (24, .bool (eqL a0 g40c3)) :: (4, .bool false) :: E13)) (H' := (mkH [])) (by kernel_rfl) ?_
                                          refine ok_split 4 (b := eqL a0 g40c3) (by kernel_rfl) (fun hb => ?_) (fun hb => ?_)
                                          · refine ok_run 2 (p' := g40p4) (env' := ((4, .bool true) :: (4, .bool (eqL a0 g40c3)) :: (24, .bool (eqL a0 g40c3)) :: (4, .bool false) :: E13)) (H' := (mkH [])) (by kernel_rfl) ?_
                                            refine ok_keep [4] (env' := [(4, .bool true)]) (by kernel_rfl) ?_
                                            exact hj0 true
                                          · let E14 : Env := ((4, .bool (eqL a0 g40c4)) :: (25, .bool (eqL a0 g40c4)) :: (4, .bool false) :: (4, .bool (eqL a0 g40c3)) :: (24, .bool (eqL a0 g40c3)) :: (4, .bool false) :: E13)
                                            refine ok_run 6 (p' := g40p47) (env' := E14) (H' := (mkH [])) (by kernel_rfl) ?_
                                            refine ok_keep [3, 4] (env' := [(3, .str a0), (4, .bool (eqL a0 g40c4))]) (by kernel_rfl) ?_
                                            refine ok_split 4 (b := eqL a0 g40c4) (by kernel_rfl) (fun hb => ?_) (fun hb => ?_)
                                            · refine ok_run 2 (p' := g40p4) (env' := [(4, .bool true), (3, .str a0), (4, .bool (eqL a0 g40c4))]) (H' := (mkH [])) (by kernel_rfl) ?_
                                              refine ok_keep [4] (env' := [(4, .bool true)]) (by kernel_rfl) ?_
                                              exact hj0 true
                                            · let E15 : Env := [(4, .bool (eqL a0 [114, 101, 109])), (26, .bool (eqL a0 [114, 101, 109])), (4, .bool false), (3, .str a0), (4, .bool (eqL a0 g40c4))]
                                              refine ok_run 6 (p' := g40p49) (env' := E15) (H' := (mkH [])) (by kernel_rfl) ?_
                                              refine ok_split 4 (b := eqL a0 [114, 101, 109]) (by kernel_rfl) (fun hb => ?_) (fun hb => ?_)
                                              · refine ok_run 2 (p' := g40p4) (env' := ((4, .bool true) :: E15)) (H' := (mkH [])) (by kernel_rfl) ?_
                                                refine ok_keep [4] (env' := [(4, .bool true)]) (by kernel_rfl) ?_
                                                exact hj0 true
                                              · refine ok_run 6 (p' := g40p51) (env' := ((4, .bool (eqL a0 [119, 104, 101, 110])) :: (27, .bool (eqL a0 [119, 104, 101, 110])) :: (4, .bool false) :: E15)) (H' := (mkH [])) (by kernel_rfl) ?_
                                                refine ok_split 4 (b := eqL a0 [119, 104, 101, 110]) (by kernel_rfl) (fun hb => ?_) (fun hb => ?_)
                                                · refine ok_run 2 (p' := g40p4) (env' := ((4, .bool true) :: (4, .bool (eqL a0 [119, 104, 101, 110])) :: (27, .bool (eqL a0 [119, 104, 101, 110])) :: (4, .bool false) :: E15)) (H' := (mkH [])) (by kernel_rfl) ?_
                                                  refine ok_keep [4] (env' := [(4, .bool true)]) (by kernel_rfl) ?_
                                                  exact hj0 true
                                                · let E16 : Env := ((4, .bool (eqL a0 [120, 111, 114])) :: (28, .bool (eqL a0 [120, 111, 114])) :: (4, .bool false) :: (4, .bool (eqL a0 [119, 104, 101, 110])) :: (27, .bool (eqL a0 [119, 104, 101, 110])) :: (4, .bool false) :: E15)
                                                  refine ok_run 5 (p' := g40p4) (env' := E16) (H' := (mkH [])) (by kernel_rfl) ?_
                                                  refine ok_keep [4] (env' := [(4, .bool (eqL a0 [120, 111, 114]))]) (by kernel_rfl) ?_
                                                  exact hj0 (eqL a0 [120, 111, 114])
end Go.Proofs.Ytokcjgjgojlhbaa.Am
