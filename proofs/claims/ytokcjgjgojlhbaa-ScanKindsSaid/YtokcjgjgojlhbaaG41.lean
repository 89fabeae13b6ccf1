/- Function 41, plain, and that the program computes it. Printed by gen.py. -/
import Derived.Test.YtokcjgjgojlhbaaTy
set_option maxRecDepth 100000
set_option linter.unusedVariables false
namespace Go.Proofs.Ytokcjgjgojlhbaa.Am
open Go

/-! 41 galley/sign.Longest -/
noncomputable def X41 : Fx Int := ⟨Try.prog, cx, Try.f41, fun r => .int .i64 r, 0, fun _ => H0, cxTi, cxOrd⟩
noncomputable def g41p0 : Pt := nav [0] (bodyAt Try.f41)
noncomputable def g41p1 : Pt := nav [0, 0, 0] g41p0
noncomputable def g41p2 : Pt := nav [0, 0, 0, 0] g41p1
noncomputable def g41p3 : Pt := nav [0, 0] g41p2
noncomputable def g41p4 : Pt := nav [1, 0] g41p3
noncomputable def g41p5 : Pt := nav [2, 0, 0] g41p3
noncomputable def g41p7 : Pt := nav [0, 0, 0] g41p5
noncomputable def g41p8 : Pt := nav [0, 0, 0, 0, 0] g41p7
noncomputable def g41p9 : Pt := nav [0, 0] g41p8
noncomputable def g41p10 : Pt := nav [1, 0] g41p9
noncomputable def g41p11 : Pt := nav [2] g41p9
noncomputable def g41p12 : Pt := nav [1, 0] g41p10
noncomputable def g41p13 : Pt := nav [2, 0, 0, 0] g41p10
noncomputable def g41p14 : Pt := nav [0, 0, 0, 0, 0] g41p13
noncomputable def g41p15 : Pt := nav [0, 0] g41p14
noncomputable def g41p16 : Pt := nav [1, 0] g41p15
noncomputable def g41p17 : Pt := nav [2, 0] g41p15
noncomputable def g41p18 : Pt := nav [1, 0] g41p16
noncomputable def g41p19 : Pt := nav [2, 0, 0, 0] g41p16
noncomputable def g41p20 : Pt := nav [0, 0] g41p17
noncomputable def g41p21 : Pt := nav [0, 0, 0, 0, 0] g41p19
noncomputable def g41p22 : Pt := nav [2, 0] g41p20
noncomputable def g41p23 : Pt := nav [0, 0] g41p21
noncomputable def g41p24 : Pt := nav [0, 0] g41p22
noncomputable def g41p25 : Pt := nav [1, 0] g41p23
noncomputable def g41p26 : Pt := nav [2, 0] g41p23
noncomputable def g41p27 : Pt := nav [2, 0] g41p24
noncomputable def g41p28 : Pt := nav [1, 0] g41p25
noncomputable def g41p29 : Pt := nav [2, 0, 0] g41p25
noncomputable def g41p30 : Pt := nav [0, 0] g41p26
noncomputable def g41p31 : Pt := nav [0, 0] g41p27
noncomputable def g41p32 : Pt := nav [2, 0] g41p30
noncomputable def g41p33 : Pt := nav [2, 0] g41p31
noncomputable def g41p34 : Pt := nav [0, 0] g41p32
noncomputable def g41p35 : Pt := nav [0, 0] g41p33
noncomputable def g41p36 : Pt := nav [2, 0] g41p34
noncomputable def g41p37 : Pt := nav [2, 0] g41p35
noncomputable def g41p38 : Pt := nav [0, 0] g41p36
noncomputable def g41p39 : Pt := nav [0, 0] g41p37
noncomputable def g41p40 : Pt := nav [2, 0] g41p38
noncomputable def g41p41 : Pt := nav [2, 0] g41p39
noncomputable def g41p42 : Pt := nav [0, 0] g41p40
noncomputable def g41p43 : Pt := nav [0, 0] g41p41
noncomputable def g41p44 : Pt := nav [2, 0] g41p42
noncomputable def g41p45 : Pt := nav [2, 0] g41p43
noncomputable def g41p46 : Pt := nav [0, 0] g41p44
noncomputable def g41p47 : Pt := nav [0, 0] g41p45
noncomputable def g41p48 : Pt := nav [2, 0] g41p46
noncomputable def g41p49 : Pt := nav [2, 0] g41p47
noncomputable def g41p50 : Pt := nav [0, 0] g41p48
noncomputable def g41p51 : Pt := nav [0, 0] g41p49
noncomputable def g41p52 : Pt := nav [2, 0] g41p50
noncomputable def g41p53 : Pt := nav [2, 0] g41p51
noncomputable def g41p54 : Pt := nav [0, 0] g41p52
noncomputable def g41p55 : Pt := nav [0, 0] g41p53
noncomputable def g41p56 : Pt := nav [2, 0] g41p54
noncomputable def g41p57 : Pt := nav [2, 0] g41p55
noncomputable def g41p58 : Pt := nav [0, 0] g41p56
noncomputable def g41p59 : Pt := nav [0, 0] g41p57
noncomputable def g41p60 : Pt := nav [2, 0] g41p58
noncomputable def g41p61 : Pt := nav [2, 0] g41p59
noncomputable def g41p62 : Pt := nav [0, 0] g41p60
noncomputable def g41p63 : Pt := nav [0, 0] g41p61
noncomputable def g41p64 : Pt := nav [2, 0] g41p62
noncomputable def g41p65 : Pt := nav [2, 0] g41p63
noncomputable def g41p66 : Pt := nav [0, 0] g41p64
noncomputable def g41p67 : Pt := nav [0, 0] g41p65
noncomputable def g41p68 : Pt := nav [2, 0] g41p66
noncomputable def g41p69 : Pt := nav [2, 0] g41p67
noncomputable def g41p70 : Pt := nav [0, 0] g41p68
noncomputable def g41p71 : Pt := nav [0, 0] g41p69
noncomputable def g41p72 : Pt := nav [2, 0] g41p70
noncomputable def g41p73 : Pt := nav [2] g41p71
noncomputable def g41p74 : Pt := nav [0, 0] g41p72
noncomputable def g41p75 : Pt := nav [2, 0] g41p74
noncomputable def g41p76 : Pt := nav [0, 0] g41p75
noncomputable def g41p77 : Pt := nav [2, 0] g41p76
noncomputable def g41p78 : Pt := nav [0, 0] g41p77
noncomputable def g41p79 : Pt := nav [2, 0] g41p78
noncomputable def g41p80 : Pt := nav [0, 0] g41p79
noncomputable def g41p81 : Pt := nav [2, 0] g41p80
noncomputable def g41p82 : Pt := nav [0, 0] g41p81
noncomputable def g41p83 : Pt := nav [2, 0] g41p82
noncomputable def g41p84 : Pt := nav [0, 0] g41p83
noncomputable def g41p85 : Pt := nav [2, 0] g41p84
noncomputable def g41p86 : Pt := nav [0, 0] g41p85
noncomputable def g41p87 : Pt := nav [2] g41p86
noncomputable def g41 (k : Nat) (a0 : (List Nat)) (a1 : Int) : Option Int :=
  jn (fun (z1 : Bool) => if z1 then (some (0 : Int)) else ((subL a0 (some a1) none).bind fun x0_3 => (cpyN x0_3 3).bind fun x0_4 => jn (fun (z2 : Bool) => if z2 then (some (3 : Int)) else (jn (fun (z3 : Bool) => if z3 then (some (2 : Int)) else (jn (fun (z4 : Bool) => if z4 then (some (1 : Int)) else (some (0 : Int))) (fun j4 => if (decide (cpyS 0 x0_3 0 = 40)) then (j4 true) else (if (decide (cpyS 0 x0_3 0 = 41)) then (j4 true) else (if (decide (cpyS 0 x0_3 0 = 123)) then (j4 true) else (if (decide (cpyS 0 x0_3 0 = 125)) then (j4 true) else (if (decide (cpyS 0 x0_3 0 = 91)) then (j4 true) else (if (decide (cpyS 0 x0_3 0 = 93)) then (j4 true) else (if (decide (cpyS 0 x0_3 0 = 44)) then (j4 true) else (if (decide (cpyS 0 x0_3 0 = 59)) then (j4 true) else (if (decide (cpyS 0 x0_3 0 = 58)) then (j4 true) else (if (decide (cpyS 0 x0_3 0 = 61)) then (j4 true) else (if (decide (cpyS 0 x0_3 0 = 124)) then (j4 true) else (if (decide (cpyS 0 x0_3 0 = 33)) then (j4 true) else (if (decide (cpyS 0 x0_3 0 = 35)) then (j4 true) else (if (decide (cpyS 0 x0_3 0 = 43)) then (j4 true) else (if (decide (cpyS 0 x0_3 0 = 45)) then (j4 true) else (if (decide (cpyS 0 x0_3 0 = 42)) then (j4 true) else (if (decide (cpyS 0 x0_3 0 = 47)) then (j4 true) else (if (decide (cpyS 0 x0_3 0 = 60)) then (j4 true) else (if (decide (cpyS 0 x0_3 0 = 62)) then (j4 true) else (j4 (decide (cpyS 0 x0_3 0 = 46)))))))))))))))))))))))) (fun j3 => if ((decide (cpyS 0 x0_3 0 = 60)) && ((decide (cpyS 0 x0_3 1 = 60)) && true)) then (j3 true) else (if ((decide (cpyS 0 x0_3 0 = 62)) && ((decide (cpyS 0 x0_3 1 = 62)) && true)) then (j3 true) else (if ((decide (cpyS 0 x0_3 0 = 45)) && ((decide (cpyS 0 x0_3 1 = 62)) && true)) then (j3 true) else (if ((decide (cpyS 0 x0_3 0 = 60)) && ((decide (cpyS 0 x0_3 1 = 45)) && true)) then (j3 true) else (if ((decide (cpyS 0 x0_3 0 = 60)) && ((decide (cpyS 0 x0_3 1 = 61)) && true)) then (j3 true) else (if ((decide (cpyS 0 x0_3 0 = 61)) && ((decide (cpyS 0 x0_3 1 = 62)) && true)) then (j3 true) else (if ((decide (cpyS 0 x0_3 0 = 58)) && ((decide (cpyS 0 x0_3 1 = 61)) && true)) then (j3 true) else (if ((decide (cpyS 0 x0_3 0 = 58)) && ((decide (cpyS 0 x0_3 1 = 58)) && true)) then (j3 true) else (if ((decide (cpyS 0 x0_3 0 = 61)) && ((decide (cpyS 0 x0_3 1 = 61)) && true)) then (j3 true) else (if ((decide (cpyS 0 x0_3 0 = 47)) && ((decide (cpyS 0 x0_3 1 = 61)) && true)) then (j3 true) else (if ((decide (cpyS 0 x0_3 0 = 61)) && ((decide (cpyS 0 x0_3 1 = 60)) && true)) then (j3 true) else (if ((decide (cpyS 0 x0_3 0 = 62)) && ((decide (cpyS 0 x0_3 1 = 61)) && true)) then (j3 true) else (if ((decide (cpyS 0 x0_3 0 = 124)) && ((decide (cpyS 0 x0_3 1 = 124)) && true)) then (j3 true) else (if ((decide (cpyS 0 x0_3 0 = 43)) && ((decide (cpyS 0 x0_3 1 = 43)) && true)) then (j3 true) else (j3 ((decide (cpyS 0 x0_3 0 = 45)) && ((decide (cpyS 0 x0_3 1 = 45)) && true))))))))))))))))))) (fun j2 => if ((decide (cpyS 0 x0_3 0 = 61)) && ((decide (cpyS 0 x0_3 1 = 58)) && ((decide (cpyS 0 x0_3 2 = 61)) && true))) then (j2 true) else (j2 ((decide (cpyS 0 x0_3 0 = 61)) && ((decide (cpyS 0 x0_3 1 = 47)) && ((decide (cpyS 0 x0_3 2 = 61)) && true))))))) (fun j1 => if (decide (a1 < 0)) then (j1 true) else (j1 (decide ((a0.length : Int) ≤ a1))))
theorem g41_ok (k : Nat) (a0 : (List Nat)) (a1 : Int) (r : Int) (h : g41 k a0 a1 = some r) : PureOk Try.prog 41 [.str a0, .int .i64 a1] (.int .i64 r) := by
  refine pure_of X41 (fun _ => rfl) Try.func41 (by decide +kernel) (by kernel_rfl) (t := g41 k a0 a1) ?_ h
  unfold g41
  refine ok_env (env' := [(0, .str a0), (1, .int .i64 a1)]) (by kernel_rfl) ?_
  let E1 : Env := [(8, .bool (decide (a1 < 0))), (7, .bool (decide (a1 < 0))), (6, .int .i64 a1), (5, .ptr 0 3 0), (4, .int .i64 0), (0, .str a0), (1, .int .i64 a1)]
  refine ok_run 14 (p' := (atN 3 (ctl1 g41p2))) (env' := E1) (H' := (mkH [⟨[.int .u8 0, .int .u8 0, .int .u8 0], 0, false⟩])) (by kernel_rfl) ?_
  refine ok_jn (f := fun (z1 : Bool) => if z1 then (some (0 : Int)) else ((subL a0 (some a1) none).bind fun x0_3 => (cpyN x0_3 3).bind fun x0_4 => jn (fun (z2 : Bool) => if z2 then (some (3 : Int)) else (jn (fun (z3 : Bool) => if z3 then (some (2 : Int)) else (jn (fun (z4 : Bool) => if z4 then (some (1 : Int)) else (some (0 : Int))) (fun j4 => if (decide (cpyS 0 x0_3 0 = 40)) then (j4 true) else (if (decide (cpyS 0 x0_3 0 = 41)) then (j4 true) else (if (decide (cpyS 0 x0_3 0 = 123)) then (j4 true) else (if (decide (cpyS 0 x0_3 0 = 125)) then (j4 true) else (if (decide (cpyS 0 x0_3 0 = 91)) then (j4 true) else (if (decide (cpyS 0 x0_3 0 = 93)) then (j4 true) else (if (decide (cpyS 0 x0_3 0 = 44)) then (j4 true) else (if (decide (cpyS 0 x0_3 0 = 59)) then (j4 true) else (if (decide (cpyS 0 x0_3 0 = 58)) then (j4 true) else (if (decide (cpyS 0 x0_3 0 = 61)) then (j4 true) else (if (decide (cpyS 0 x0_3 0 = 124)) then (j4 true) else (if (decide (cpyS 0 x0_3 0 = 33)) then (j4 true) else (if (decide (cpyS 0 x0_3 0 = 35)) then (j4 true) else (if (decide (cpyS 0 x0_3 0 = 43)) then (j4 true) else (if (decide (cpyS 0 x0_3 0 = 45)) then (j4 true) else (if (decide (cpyS 0 x0_3 0 = 42)) then (j4 true) else (if (decide (cpyS 0 x0_3 0 = 47)) then (j4 true) else (if (decide (cpyS 0 x0_3 0 = 60)) then (j4 true) else (if (decide (cpyS 0 x0_3 0 = 62)) then (j4 true) else (j4 (decide (cpyS 0 x0_3 0 = 46)))))))))))))))))))))))) (fun j3 => if ((decide (cpyS 0 x0_3 0 = 60)) && ((decide (cpyS 0 x0_3 1 = 60)) && true)) then (j3 true) else (if ((decide (cpyS 0 x0_3 0 = 62)) && ((decide (cpyS 0 x0_3 1 = 62)) && true)) then (j3 true) else (if ((decide (cpyS 0 x0_3 0 = 45)) && ((decide (cpyS 0 x0_3 1 = 62)) && true)) then (j3 true) else (if ((decide (cpyS 0 x0_3 0 = 60)) && ((decide (cpyS 0 x0_3 1 = 45)) && true)) then (j3 true) else (if ((decide (cpyS 0 x0_3 0 = 60)) && ((decide (cpyS 0 x0_3 1 = 61)) && true)) then (j3 true) else (if ((decide (cpyS 0 x0_3 0 = 61)) && ((decide (cpyS 0 x0_3 1 = 62)) && true)) then (j3 true) else (if ((decide (cpyS 0 x0_3 0 = 58)) && ((decide (cpyS 0 x0_3 1 = 61)) && true)) then (j3 true) else (if ((decide (cpyS 0 x0_3 0 = 58)) && ((decide (cpyS 0 x0_3 1 = 58)) && true)) then (j3 true) else (if ((decide (cpyS 0 x0_3 0 = 61)) && ((decide (cpyS 0 x0_3 1 = 61)) && true)) then (j3 true) else (if ((decide (cpyS 0 x0_3 0 = 47)) && ((decide (cpyS 0 x0_3 1 = 61)) && true)) then (j3 true) else (if ((decide (cpyS 0 x0_3 0 = 61)) && ((decide (cpyS 0 x0_3 1 = 60)) && true)) then (j3 true) else (if ((decide (cpyS 0 x0_3 0 = 62)) && ((decide (cpyS 0 x0_3 1 = 61)) && true)) then (j3 true) else (if ((decide (cpyS 0 x0_3 0 = 124)) && ((decide (cpyS 0 x0_3 1 = 124)) && true)) then (j3 true) else (if ((decide (cpyS 0 x0_3 0 = 43)) && ((decide (cpyS 0 x0_3 1 = 43)) && true)) then (j3 true) else (j3 ((decide (cpyS 0 x0_3 0 = 45)) && ((decide (cpyS 0 x0_3 1 = 45)) && true))))))))))))))))))) (fun j2 => if ((decide (cpyS 0 x0_3 0 = 61)) && ((decide (cpyS 0 x0_3 1 = 58)) && ((decide (cpyS 0 x0_3 2 = 61)) && true))) then (j2 true) else (j2 ((decide (cpyS 0 x0_3 0 = 61)) && ((decide (cpyS 0 x0_3 1 = 47)) && ((decide (cpyS 0 x0_3 2 = 61)) && true))))))) g41p3 (fun (z1 : Bool) => [(0, .str a0), (1, .int .i64 a1), (5, .ptr 0 3 0), (13, .bool z1)]) (fun (z1 : Bool) => (mkH [⟨[.int .u8 0, .int .u8 0, .int .u8 0], 0, false⟩])) (fun z1 => ?_) (fun j1 hj1 => ?_)
  · refine ok_split 13 (b := z1) (by kernel_rfl) (fun hb => ?_) (fun hb => ?_)
    · let E2 : Env := [(4, .int .i64 0), (13, .bool true), (0, .str a0), (1, .int .i64 a1), (5, .ptr 0 3 0), (13, .bool z1)]
      refine ok_run 6 (p' := .fin) (env' := E2) (H' := (mkH [⟨[.int .u8 0, .int .u8 0, .int .u8 0], 0, false⟩])) (by kernel_rfl) ?_
      exact ok_ret (r := (0 : Int)) (xs := [.int .i64 0]) (v := .int .i64 0) (by kernel_rfl) (by kernel_rfl) (by kernel_rfl) (.pures (by kernel_rfl)) (by kernel_rfl)
    · let E3 : Env := [(13, .bool false), (0, .str a0), (1, .int .i64 a1), (5, .ptr 0 3 0), (13, .bool z1)]
      refine ok_run 3 (p' := g41p5) (env' := E3) (H' := (mkH [⟨[.int .u8 0, .int .u8 0, .int .u8 0], 0, false⟩])) (by kernel_rfl) ?_
      refine ok_bind (fun x0_3 hx0_3 => ?_)
      refine ok_bind (fun x0_4 hx0_4 => ?_)
      let E4 : Env := [(16, .int .i64 a1), (15, .str a0), (14, .slice 0 3 0 3 1), (13, .bool false), (0, .str a0), (1, .int .i64 a1), (5, .ptr 0 3 0), (13, .bool z1)]
      refine ok_draw (p' := nav [0] g41p5) (env' := ((18, .int .i64 x0_4) :: (17, .str x0_3) :: E4)) (H' := (mkH [⟨[.int .u8 (cpyS 0 x0_3 0), .int .u8 (cpyS 0 x0_3 1), .int .u8 (cpyS 0 x0_3 2)], 3, false⟩])) (hs := [(mkH [⟨[.int .u8 (cpyS 0 x0_3 0), .int .u8 (cpyS 0 x0_3 1), .int .u8 (cpyS 0 x0_3 2)], 3, false⟩])]) [(0, 0, 0), (0, 0, 0), (0, 0, 0), (6, 0, 0), (15, 0, 0)] (by kernel_rfl) (by kernel_rfl) (by kernel_rfl) (opsD_run 3 (l' := (opsAt g41p5).toList.drop 3) (env' := E4) (H' := (mkH [⟨[.int .u8 0, .int .u8 0, .int .u8 0], 0, false⟩])) (hs := []) (by kernel_rfl) (opsD_chk (l' := (opsAt g41p5).toList.drop 4) (env' := ((17, .str x0_3) :: E4)) (hs := []) (x := x0_3) (fun (x0_3 : (List Nat)) => (.str x0_3, (mkH [⟨[.int .u8 0, .int .u8 0, .int .u8 0], 0, false⟩]))) (subH (some a1) none (by kernel_rfl)) hx0_3 (by kernel_rfl) (opsD_chk2 (l' := (opsAt g41p5).toList.drop 5) (env' := ((18, .int .i64 x0_4) :: (17, .str x0_3) :: E4)) (hs := [(mkH [⟨[.int .u8 (cpyS 0 x0_3 0), .int .u8 (cpyS 0 x0_3 1), .int .u8 (cpyS 0 x0_3 2)], 3, false⟩])]) (x := x0_4) (fun (x0_4 : Int) => (.int .i64 x0_4, (mkH [⟨[.int .u8 (cpyS 0 x0_3 0), .int .u8 (cpyS 0 x0_3 1), .int .u8 (cpyS 0 x0_3 2)], 3, false⟩]))) ((cpyH [0, 0, 0] [⟨[.int .u8 0, .int .u8 0, .int .u8 0], 0, false⟩] 0 0 rfl rfl rfl rfl (by kernel_rfl) hx0_4).trans (by kernel_rfl)) (by kernel_rfl) (.nil)))) (by kernel_rfl) (by kernel_rfl) (by kernel_rfl) ?_
      refine ok_run 8 (p' := g41p8) (env' := ((19, .agg [.int .u8 (cpyS 0 x0_3 0), .int .u8 (cpyS 0 x0_3 1), .int .u8 (cpyS 0 x0_3 2)]) :: (18, .int .i64 x0_4) :: (17, .str x0_3) :: E4)) (H' := (mkH [⟨[.int .u8 (cpyS 0 x0_3 0), .int .u8 (cpyS 0 x0_3 1), .int .u8 (cpyS 0 x0_3 2)], 3, false⟩])) (by kernel_rfl) ?_
      refine ok_keep [5, 19] (env' := [(5, .ptr 0 3 0), (19, .agg [.int .u8 (cpyS 0 x0_3 0), .int .u8 (cpyS 0 x0_3 1), .int .u8 (cpyS 0 x0_3 2)])]) (by kernel_rfl) ?_
      let E5 : Env := [(20, .bool ((decide (cpyS 0 x0_3 0 = 61)) && ((decide (cpyS 0 x0_3 1 = 58)) && ((decide (cpyS 0 x0_3 2 = 61)) && true)))), (22, .bool ((decide (cpyS 0 x0_3 0 = 61)) && ((decide (cpyS 0 x0_3 1 = 58)) && ((decide (cpyS 0 x0_3 2 = 61)) && true)))), (21, .agg [.int .u8 61, .int .u8 58, .int .u8 61]), (5, .ptr 0 3 0), (19, .agg [.int .u8 (cpyS 0 x0_3 0), .int .u8 (cpyS 0 x0_3 1), .int .u8 (cpyS 0 x0_3 2)])]
      refine ok_run 5 (p' := g41p9) (env' := E5) (H' := (mkH [⟨[.int .u8 (cpyS 0 x0_3 0), .int .u8 (cpyS 0 x0_3 1), .int .u8 (cpyS 0 x0_3 2)], 3, false⟩])) (by kernel_rfl) ?_
      refine ok_jn (f := fun (z2 : Bool) => if z2 then (some (3 : Int)) else (jn (fun (z3 : Bool) => if z3 then (some (2 : Int)) else (jn (fun (z4 : Bool) => if z4 then (some (1 : Int)) else (some (0 : Int))) (fun j4 => if (decide (cpyS 0 x0_3 0 = 40)) then (j4 true) else (if (decide (cpyS 0 x0_3 0 = 41)) then (j4 true) else (if (decide (cpyS 0 x0_3 0 = 123)) then (j4 true) else (if (decide (cpyS 0 x0_3 0 = 125)) then (j4 true) else (if (decide (cpyS 0 x0_3 0 = 91)) then (j4 true) else (if (decide (cpyS 0 x0_3 0 = 93)) then (j4 true) else (if (decide (cpyS 0 x0_3 0 = 44)) then (j4 true) else (if (decide (cpyS 0 x0_3 0 = 59)) then (j4 true) else (if (decide (cpyS 0 x0_3 0 = 58)) then (j4 true) else (if (decide (cpyS 0 x0_3 0 = 61)) then (j4 true) else (if (decide (cpyS 0 x0_3 0 = 124)) then (j4 true) else (if (decide (cpyS 0 x0_3 0 = 33)) then (j4 true) else (if (decide (cpyS 0 x0_3 0 = 35)) then (j4 true) else (if (decide (cpyS 0 x0_3 0 = 43)) then (j4 true) else (if (decide (cpyS 0 x0_3 0 = 45)) then (j4 true) else (if (decide (cpyS 0 x0_3 0 = 42)) then (j4 true) else (if (decide (cpyS 0 x0_3 0 = 47)) then (j4 true) else (if (decide (cpyS 0 x0_3 0 = 60)) then (j4 true) else (if (decide (cpyS 0 x0_3 0 = 62)) then (j4 true) else (j4 (decide (cpyS 0 x0_3 0 = 46)))))))))))))))))))))))) (fun j3 => if ((decide (cpyS 0 x0_3 0 = 60)) && ((decide (cpyS 0 x0_3 1 = 60)) && true)) then (j3 true) else (if ((decide (cpyS 0 x0_3 0 = 62)) && ((decide (cpyS 0 x0_3 1 = 62)) && true)) then (j3 true) else (if ((decide (cpyS 0 x0_3 0 = 45)) && ((decide (cpyS 0 x0_3 1 = 62)) && true)) then (j3 true) else (if ((decide (cpyS 0 x0_3 0 = 60)) && ((decide (cpyS 0 x0_3 1 = 45)) && true)) then (j3 true) else (if ((decide (cpyS 0 x0_3 0 = 60)) && ((decide (cpyS 0 x0_3 1 = 61)) && true)) then (j3 true) else (if ((decide (cpyS 0 x0_3 0 = 61)) && ((decide (cpyS 0 x0_3 1 = 62)) && true)) then (j3 true) else (if ((decide (cpyS 0 x0_3 0 = 58)) && ((decide (cpyS 0 x0_3 1 = 61)) && true)) then (j3 true) else (if ((decide (cpyS 0 x0_3 0 = 58)) && ((decide (cpyS 0 x0_3 1 = 58)) && true)) then (j3 true) else (if ((decide (cpyS 0 x0_3 0 = 61)) && ((decide (cpyS 0 x0_3 1 = 61)) && true)) then (j3 true) else (if ((decide (cpyS 0 x0_3 0 = 47)) && ((decide (cpyS 0 x0_3 1 = 61)) && true)) then (j3 true) else (if ((decide (cpyS 0 x0_3 0 = 61)) && ((decide (cpyS 0 x0_3 1 = 60)) && true)) then (j3 true) else (if ((decide (cpyS 0 x0_3 0 = 62)) && ((decide (cpyS 0 x0_3 1 = 61)) && true)) then (j3 true) else (if ((decide (cpyS 0 x0_3 0 = 124)) && ((decide (cpyS 0 x0_3 1 = 124)) && true)) then (j3 true) else (if ((decide (cpyS 0 x0_3 0 = 43)) && ((decide (cpyS 0 x0_3 1 = 43)) && true)) then (j3 true) else (j3 ((decide (cpyS 0 x0_3 0 = 45)) && ((decide (cpyS 0 x0_3 1 = 45)) && true))))))))))))))))))) g41p10 (fun (z2 : Bool) => [(5, .ptr 0 3 0), (20, .bool z2)]) (fun (z2 : Bool) => (mkH [⟨[.int .u8 (cpyS 0 x0_3 0), .int .u8 (cpyS 0 x0_3 1), .int .u8 (cpyS 0 x0_3 2)], 3, false⟩])) (fun z2 => ?_) (fun j2 hj2 => ?_)
      · refine ok_split 20 (b := z2) (by kernel_rfl) (fun hb => ?_) (fun hb => ?_)
        · refine ok_run 6 (p' := .fin) (env' := [(4, .int .i64 3), (20, .bool true), (5, .ptr 0 3 0), (20, .bool z2)]) (H' := (mkH [⟨[.int .u8 (cpyS 0 x0_3 0), .int .u8 (cpyS 0 x0_3 1), .int .u8 (cpyS 0 x0_3 2)], 3, false⟩])) (by kernel_rfl) ?_
          exact ok_ret (r := (3 : Int)) (xs := [.int .i64 3]) (v := .int .i64 3) (by kernel_rfl) (by kernel_rfl) (by kernel_rfl) (.pures (by kernel_rfl)) (by kernel_rfl)
        · let E6 : Env := [(30, .bool ((decide (cpyS 0 x0_3 0 = 60)) && ((decide (cpyS 0 x0_3 1 = 60)) && true))), (32, .bool ((decide (cpyS 0 x0_3 0 = 60)) && ((decide (cpyS 0 x0_3 1 = 60)) && true))), (31, .agg [.int .u8 60, .int .u8 60]), (29, .agg [.int .u8 (cpyS 0 x0_3 0), .int .u8 (cpyS 0 x0_3 1)]), (28, .int .u8 (cpyS 0 x0_3 1)), (27, .ptr 0 3 1), (26, .int .u8 (cpyS 0 x0_3 0)), (25, .ptr 0 3 0), (20, .bool false), (5, .ptr 0 3 0), (20, .bool z2)]
          refine ok_run 19 (p' := g41p15) (env' := E6) (H' := (mkH [⟨[.int .u8 (cpyS 0 x0_3 0), .int .u8 (cpyS 0 x0_3 1), .int .u8 (cpyS 0 x0_3 2)], 3, false⟩])) (by kernel_rfl) ?_
          refine ok_keep [5, 29, 30] (env' := [(5, .ptr 0 3 0), (29, .agg [.int .u8 (cpyS 0 x0_3 0), .int .u8 (cpyS 0 x0_3 1)]), (30, .bool ((decide (cpyS 0 x0_3 0 = 60)) && ((decide (cpyS 0 x0_3 1 = 60)) && true)))]) (by kernel_rfl) ?_
          refine ok_jn (f := fun (z3 : Bool) => if z3 then (some (2 : Int)) else (jn (fun (z4 : Bool) => if z4 then (some (1 : Int)) else (some (0 : Int))) (fun j4 => if (decide (cpyS 0 x0_3 0 = 40)) then (j4 true) else (if (decide (cpyS 0 x0_3 0 = 41)) then (j4 true) else (if (decide (cpyS 0 x0_3 0 = 123)) then (j4 true) else (if (decide (cpyS 0 x0_3 0 = 125)) then (j4 true) else (if (decide (cpyS 0 x0_3 0 = 91)) then (j4 true) else (if (decide (cpyS 0 x0_3 0 = 93)) then (j4 true) else (if (decide (cpyS 0 x0_3 0 = 44)) then (j4 true) else (if (decide (cpyS 0 x0_3 0 = 59)) then (j4 true) else (if (decide (cpyS 0 x0_3 0 = 58)) then (j4 true) else (if (decide (cpyS 0 x0_3 0 = 61)) then (j4 true) else (if (decide (cpyS 0 x0_3 0 = 124)) then (j4 true) else (if (decide (cpyS 0 x0_3 0 = 33)) then (j4 true) else (if (decide (cpyS 0 x0_3 0 = 35)) then (j4 true) else (if (decide (cpyS 0 x0_3 0 = 43)) then (j4 true) else (if (decide (cpyS 0 x0_3 0 = 45)) then (j4 true) else (if (decide (cpyS 0 x0_3 0 = 42)) then (j4 true) else (if (decide (cpyS 0 x0_3 0 = 47)) then (j4 true) else (if (decide (cpyS 0 x0_3 0 = 60)) then (j4 true) else (if (decide (cpyS 0 x0_3 0 = 62)) then (j4 true) else (j4 (decide (cpyS 0 x0_3 0 = 46)))))))))))))))))))))))) g41p16 (fun (z3 : Bool) => [(5, .ptr 0 3 0), (30, .bool z3)]) (fun (z3 : Bool) => (mkH [⟨[.int .u8 (cpyS 0 x0_3 0), .int .u8 (cpyS 0 x0_3 1), .int .u8 (cpyS 0 x0_3 2)], 3, false⟩])) (fun z3 => ?_) (fun j3 hj3 => ?_)
          · refine ok_split 30 (b := z3) (by kernel_rfl) (fun hb => ?_) (fun hb => ?_)
            · refine ok_run 6 (p' := .fin) (env' := [(4, .int .i64 2), (30, .bool true), (5, .ptr 0 3 0), (30, .bool z3)]) (H' := (mkH [⟨[.int .u8 (cpyS 0 x0_3 0), .int .u8 (cpyS 0 x0_3 1), .int .u8 (cpyS 0 x0_3 2)], 3, false⟩])) (by kernel_rfl) ?_
              exact ok_ret (r := (2 : Int)) (xs := [.int .i64 2]) (v := .int .i64 2) (by kernel_rfl) (by kernel_rfl) (by kernel_rfl) (.pures (by kernel_rfl)) (by kernel_rfl)
            · let E7 : Env := [(63, .bool (decide (cpyS 0 x0_3 0 = 40))), (64, .bool (decide (cpyS 0 x0_3 0 = 40))), (62, .int .u8 (cpyS 0 x0_3 0)), (61, .ptr 0 3 0), (30, .bool false), (5, .ptr 0 3 0), (30, .bool z3)]
              refine ok_run 15 (p' := g41p23) (env' := E7) (H' := (mkH [⟨[.int .u8 (cpyS 0 x0_3 0), .int .u8 (cpyS 0 x0_3 1), .int .u8 (cpyS 0 x0_3 2)], 3, false⟩])) (by kernel_rfl) ?_
              refine ok_jn (f := fun (z4 : Bool) => if z4 then (some (1 : Int)) else (some (0 : Int))) g41p25 (fun (z4 : Bool) => [(63, .bool z4)]) (fun (z4 : Bool) => (mkH [])) (fun z4 => ?_) (fun j4 hj4 => ?_)
              · refine ok_split 63 (b := z4) (by kernel_rfl) (fun hb => ?_) (fun hb => ?_)
                · refine ok_run 6 (p' := .fin) (env' := [(4, .int .i64 1), (63, .bool true), (63, .bool z4)]) (H' := (mkH [])) (by kernel_rfl) ?_
                  exact ok_ret (r := (1 : Int)) (xs := [.int .i64 1]) (v := .int .i64 1) (by kernel_rfl) (by kernel_rfl) (by kernel_rfl) (.pures (by kernel_rfl)) (by kernel_rfl)
                · refine ok_run 7 (p' := .fin) (env' := [(4, .int .i64 0), (63, .bool false), (63, .bool z4)]) (H' := (mkH [])) (by kernel_rfl) ?_
                  exact ok_ret (r := (0 : Int)) (xs := [.int .i64 0]) (v := .int .i64 0) (by kernel_rfl) (by kernel_rfl) (by kernel_rfl) (.pures (by kernel_rfl)) (by kernel_rfl)
              · refine ok_split 63 (b := decide (cpyS 0 x0_3 0 = 40)) (by kernel_rfl) (fun hb => ?_) (fun hb => ?_)
                · refine ok_run 2 (p' := g41p25) (env' := ((63, .bool true) :: E7)) (H' := (mkH [⟨[.int .u8 (cpyS 0 x0_3 0), .int .u8 (cpyS 0 x0_3 1), .int .u8 (cpyS 0 x0_3 2)], 3, false⟩])) (by kernel_rfl) ?_
                  refine ok_keep [63] (env' := [(63, .bool true)]) (by kernel_rfl) ?_
                  refine ok_cut [] [⟨[.int .u8 (cpyS 0 x0_3 0), .int .u8 (cpyS 0 x0_3 1), .int .u8 (cpyS 0 x0_3 2)], 3, false⟩] (by kernel_rfl) rfl (by kernel_rfl) trivial ?_
                  exact hj4 true
                · refine ok_run 6 (p' := g41p30) (env' := ((63, .bool (decide (cpyS 0 x0_3 0 = 41))) :: (65, .bool (decide (cpyS 0 x0_3 0 = 41))) :: (63, .bool false) :: E7)) (H' := (mkH [⟨[.int .u8 (cpyS 0 x0_3 0), .int .u8 (cpyS 0 x0_3 1), .int .u8 (cpyS 0 x0_3 2)], 3, false⟩])) (by kernel_rfl) ?_
                  refine ok_keep [62, 63] (env' := [(62, .int .u8 (cpyS 0 x0_3 0)), (63, .bool (decide (cpyS 0 x0_3 0 = 41)))]) (by kernel_rfl) ?_
                  refine ok_split 63 (b := decide (cpyS 0 x0_3 0 = 41)) (by kernel_rfl) (fun hb => ?_) (fun hb => ?_)
                  · refine ok_run 2 (p' := g41p25) (env' := [(63, .bool true), (62, .int .u8 (cpyS 0 x0_3 0)), (63, .bool (decide (cpyS 0 x0_3 0 = 41)))]) (H' := (mkH [⟨[.int .u8 (cpyS 0 x0_3 0), .int .u8 (cpyS 0 x0_3 1), .int .u8 (cpyS 0 x0_3 2)], 3, false⟩])) (by kernel_rfl) ?_
                    refine ok_keep [63] (env' := [(63, .bool true)]) (by kernel_rfl) ?_
                    refine ok_cut [] [⟨[.int .u8 (cpyS 0 x0_3 0), .int .u8 (cpyS 0 x0_3 1), .int .u8 (cpyS 0 x0_3 2)], 3, false⟩] (by kernel_rfl) rfl (by kernel_rfl) trivial ?_
                    exact hj4 true
                  · let E8 : Env := [(63, .bool (decide (cpyS 0 x0_3 0 = 123))), (66, .bool (decide (cpyS 0 x0_3 0 = 123))), (63, .bool false), (62, .int .u8 (cpyS 0 x0_3 0)), (63, .bool (decide (cpyS 0 x0_3 0 = 41)))]
                    refine ok_run 6 (p' := g41p34) (env' := E8) (H' := (mkH [⟨[.int .u8 (cpyS 0 x0_3 0), .int .u8 (cpyS 0 x0_3 1), .int .u8 (cpyS 0 x0_3 2)], 3, false⟩])) (by kernel_rfl) ?_
                    refine ok_split 63 (b := decide (cpyS 0 x0_3 0 = 123)) (by kernel_rfl) (fun hb => ?_) (fun hb => ?_)
                    · refine ok_run 2 (p' := g41p25) (env' := ((63, .bool true) :: E8)) (H' := (mkH [⟨[.int .u8 (cpyS 0 x0_3 0), .int .u8 (cpyS 0 x0_3 1), .int .u8 (cpyS 0 x0_3 2)], 3, false⟩])) (by kernel_rfl) ?_
                      refine ok_keep [63] (env' := [(63, .bool true)]) (by kernel_rfl) ?_
                      refine ok_cut [] [⟨[.int .u8 (cpyS 0 x0_3 0), .int .u8 (cpyS 0 x0_3 1), .int .u8 (cpyS 0 x0_3 2)], 3, false⟩] (by kernel_rfl) rfl (by kernel_rfl) trivial ?_
                      exact hj4 true
                    · refine ok_run 6 (p' := g41p38) (env' := ((63, .bool (decide (cpyS 0 x0_3 0 = 125))) :: (67, .bool (decide (cpyS 0 x0_3 0 = 125))) :: (63, .bool false) :: E8)) (H' := (mkH [⟨[.int .u8 (cpyS 0 x0_3 0), .int .u8 (cpyS 0 x0_3 1), .int .u8 (cpyS 0 x0_3 2)], 3, false⟩])) (by kernel_rfl) ?_
                      refine ok_split 63 (b := decide (cpyS 0 x0_3 0 = 125)) (by kernel_rfl) (fun hb => ?_) (fun hb => ?_)
                      · refine ok_run 2 (p' := g41p25) (env' := ((63, .bool true) :: (63, .bool (decide (cpyS 0 x0_3 0 = 125))) :: (67, .bool (decide (cpyS 0 x0_3 0 = 125))) :: (63, .bool false) :: E8)) (H' := (mkH [⟨[.int .u8 (cpyS 0 x0_3 0), .int .u8 (cpyS 0 x0_3 1), .int .u8 (cpyS 0 x0_3 2)], 3, false⟩])) (by kernel_rfl) ?_
                        refine ok_keep [63] (env' := [(63, .bool true)]) (by kernel_rfl) ?_
                        refine ok_cut [] [⟨[.int .u8 (cpyS 0 x0_3 0), .int .u8 (cpyS 0 x0_3 1), .int .u8 (cpyS 0 x0_3 2)], 3, false⟩] (by kernel_rfl) rfl (by kernel_rfl) trivial ?_
                        exact hj4 true
                      · let E9 : Env := ((63, .bool (decide (cpyS 0 x0_3 0 = 91))) :: (68, .bool (decide (cpyS 0 x0_3 0 = 91))) :: (63, .bool false) :: (63, .bool (decide (cpyS 0 x0_3 0 = 125))) :: (67, .bool (decide (cpyS 0 x0_3 0 = 125))) :: (63, .bool false) :: E8)
                        refine ok_run 6 (p' := g41p42) (env' := E9) (H' := (mkH [⟨[.int .u8 (cpyS 0 x0_3 0), .int .u8 (cpyS 0 x0_3 1), .int .u8 (cpyS 0 x0_3 2)], 3, false⟩])) (by kernel_rfl) ?_
                        refine ok_keep [62, 63] (env' := [(62, .int .u8 (cpyS 0 x0_3 0)), (63, .bool (decide (cpyS 0 x0_3 0 = 91)))]) (by kernel_rfl) ?_
                        refine ok_split 63 (b := decide (cpyS 0 x0_3 0 = 91)) (by kernel_rfl) (fun hb => ?_) (fun hb => ?_)
                        · refine ok_run 2 (p' := g41p25) (env' := [(63, .bool true), (62, .int .u8 (cpyS 0 x0_3 0)), (63, .bool (decide (cpyS 0 x0_3 0 = 91)))]) (H' := (mkH [⟨[.int .u8 (cpyS 0 x0_3 0), .int .u8 (cpyS 0 x0_3 1), .int .u8 (cpyS 0 x0_3 2)], 3, false⟩])) (by kernel_rfl) ?_
                          refine ok_keep [63] (env' := [(63, .bool true)]) (by kernel_rfl) ?_
                          refine ok_cut [] [⟨[.int .u8 (cpyS 0 x0_3 0), .int .u8 (cpyS 0 x0_3 1), .int .u8 (cpyS 0 x0_3 2)], 3, false⟩] (by kernel_rfl) rfl (by kernel_rfl) trivial ?_
                          exact hj4 true
                        · let E10 : Env := [(63, .bool (decide (cpyS 0 x0_3 0 = 93))), (69, .bool (decide (cpyS 0 x0_3 0 = 93))), (63, .bool false), (62, .int .u8 (cpyS 0 x0_3 0)), (63, .bool (decide (cpyS 0 x0_3 0 = 91)))]
                          refine ok_run 6 (p' := g41p46) (env' := E10) (H' := (mkH [⟨[.int .u8 (cpyS 0 x0_3 0), .int .u8 (cpyS 0 x0_3 1), .int .u8 (cpyS 0 x0_3 2)], 3, false⟩])) (by kernel_rfl) ?_
                          refine ok_split 63 (b := decide (cpyS 0 x0_3 0 = 93)) (by kernel_rfl) (fun hb => ?_) (fun hb => ?_)
                          · refine ok_run 2 (p' := g41p25) (env' := ((63, .bool true) :: E10)) (H' := (mkH [⟨[.int .u8 (cpyS 0 x0_3 0), .int .u8 (cpyS 0 x0_3 1), .int .u8 (cpyS 0 x0_3 2)], 3, false⟩])) (by kernel_rfl) ?_
                            refine ok_keep [63] (env' := [(63, .bool true)]) (by kernel_rfl) ?_
                            refine ok_cut [] [⟨[.int .u8 (cpyS 0 x0_3 0), .int .u8 (cpyS 0 x0_3 1), .int .u8 (cpyS 0 x0_3 2)], 3, false⟩] (by kernel_rfl) rfl (by kernel_rfl) trivial ?_
                            exact hj4 true
                          · refine ok_run 6 (p' := g41p50) (env' := ((63, .bool (decide (cpyS 0 x0_3 0 = 44))) :: (70, .bool (decide (cpyS 0 x0_3 0 = 44))) :: (63, .bool false) :: E10)) (H' := (mkH [⟨[.int .u8 (cpyS 0 x0_3 0), .int .u8 (cpyS 0 x0_3 1), .int .u8 (cpyS 0 x0_3 2)], 3, false⟩])) (by kernel_rfl) ?_
                            refine ok_split 63 (b := decide (cpyS 0 x0_3 0 = 44)) (by kernel_rfl) (fun hb => ?_) (fun hb => ?_)
                            · refine ok_run 2 (p' := g41p25) (env' := ((63, .bool true) :: (63, .bool (decide (cpyS 0 x0_3 0 = 44))) :: (70, .bool (decide (cpyS 0 x0_3 0 = 44))) :: (63, .bool false) :: E10)) (H' := (mkH [⟨[.int .u8 (cpyS 0 x0_3 0), .int .u8 (cpyS 0 x0_3 1), .int .u8 (cpyS 0 x0_3 2)], 3, false⟩])) (by kernel_rfl) ?_
                              refine ok_keep [63] (env' := [(63, .bool true)]) (by kernel_rfl) ?_
                              refine ok_cut [] [⟨[.int .u8 (cpyS 0 x0_3 0), .int .u8 (cpyS 0 x0_3 1), .int .u8 (cpyS 0 x0_3 2)], 3, false⟩] (by kernel_rfl) rfl (by kernel_rfl) trivial ?_
                              exact hj4 true
                            · let E11 : Env := ((63, .bool (decide (cpyS 0 x0_3 0 = 59))) :: (71, .bool (decide (cpyS 0 x0_3 0 = 59))) :: (63, .bool false) :: (63, .bool (decide (cpyS 0 x0_3 0 = 44))) :: (70, .bool (decide (cpyS 0 x0_3 0 = 44))) :: (63, .bool false) :: E10)
                              refine ok_run 6 (p' := g41p54) (env' := E11) (H' := (mkH [⟨[.int .u8 (cpyS 0 x0_3 0), .int .u8 (cpyS 0 x0_3 1), .int .u8 (cpyS 0 x0_3 2)], 3, false⟩])) (by kernel_rfl) ?_
                              refine ok_keep [62, 63] (env' := [(62, .int .u8 (cpyS 0 x0_3 0)), (63, .bool (decide (cpyS 0 x0_3 0 = 59)))]) (by kernel_rfl) ?_
                              refine ok_split 63 (b := decide (cpyS 0 x0_3 0 = 59)) (by kernel_rfl) (fun hb => ?_) (fun hb => ?_)
                              · refine ok_run 2 (p' := g41p25) (env' := [(63, .bool true), (62, .int .u8 (cpyS 0 x0_3 0)), (63, .bool (decide (cpyS 0 x0_3 0 = 59)))]) (H' := (mkH [⟨[.int .u8 (cpyS 0 x0_3 0), .int .u8 (cpyS 0 x0_3 1), .int .u8 (cpyS 0 x0_3 2)], 3, false⟩])) (by kernel_rfl) ?_
                                refine ok_keep [63] (env' := [(63, .bool true)]) (by kernel_rfl) ?_
                                refine ok_cut [] [⟨[.int .u8 (cpyS 0 x0_3 0), .int .u8 (cpyS 0 x0_3 1), .int .u8 (cpyS 0 x0_3 2)], 3, false⟩] (by kernel_rfl) rfl (by kernel_rfl) trivial ?_
                                exact hj4 true
                              · let E12 : Env := [(63, .bool (decide (cpyS 0 x0_3 0 = 58))), (72, .bool (decide (cpyS 0 x0_3 0 = 58))), (63, .bool false), (62, .int .u8 (cpyS 0 x0_3 0)), (63, .bool (decide (cpyS 0 x0_3 0 = 59)))]
                                refine ok_run 6 (p' := g41p58) (env' := E12) (H' := (mkH [⟨[.int .u8 (cpyS 0 x0_3 0), .int .u8 (cpyS 0 x0_3 1), .int .u8 (cpyS 0 x0_3 2)], 3, false⟩])) (by kernel_rfl) ?_
                                refine ok_split 63 (b := decide (cpyS 0 x0_3 0 = 58)) (by kernel_rfl) (fun hb => ?_) (fun hb => ?_)
                                · refine ok_run 2 (p' := g41p25) (env' := ((63, .bool true) :: E12)) (H' := (mkH [⟨[.int .u8 (cpyS 0 x0_3 0), .int .u8 (cpyS 0 x0_3 1), .int .u8 (cpyS 0 x0_3 2)], 3, false⟩])) (by kernel_rfl) ?_
                                  refine ok_keep [63] (env' := [(63, .bool true)]) (by kernel_rfl) ?_
                                  refine ok_cut [] [⟨[.int .u8 (cpyS 0 x0_3 0), .int .u8 (cpyS 0 x0_3 1), .int .u8 (cpyS 0 x0_3 2)], 3, false⟩] (by kernel_rfl) rfl (by kernel_rfl) trivial ?_
                                  exact hj4 true
                                · refine ok_run 6 (p' := g41p62) (env' := ((63, .bool (decide (cpyS 0 x0_3 0 = 61))) :: (73, .bool (decide (cpyS 0 x0_3 0 = 61))) :: (63, .bool false) :: E12)) (H' := (mkH [⟨[.int .u8 (cpyS 0 x0_3 0), .int .u8 (cpyS 0 x0_3 1), .int .u8 (cpyS 0 x0_3 2)], 3, false⟩])) (by kernel_rfl) ?_
                                  refine ok_split 63 (b := decide (cpyS 0 x0_3 0 = 61)) (by kernel_rfl) (fun hb => ?_) (fun hb => ?_)
                                  · refine ok_run 2 (p' := g41p25) (env' := ((63, .bool true) :: (63, .bool (decide (cpyS 0 x0_3 0 = 61))) :: (73, .bool (decide (cpyS 0 x0_3 0 = 61))) :: (63, .bool false) :: E12)) (H' := (mkH [⟨[.int .u8 (cpyS 0 x0_3 0), .int .u8 (cpyS 0 x0_3 1), .int .u8 (cpyS 0 x0_3 2)], 3, false⟩])) (by kernel_rfl) ?_
                                    refine ok_keep [63] (env' := [(63, .bool true)]) (by kernel_rfl) ?_
                                    refine ok_cut [] [⟨[.int .u8 (cpyS 0 x0_3 0), .int .u8 (cpyS 0 x0_3 1), .int .u8 (cpyS 0 x0_3 2)], 3, false⟩] (by kernel_rfl) rfl (by kernel_rfl) trivial ?_
                                    exact hj4 true
                                  · let E13 : Env := ((63, .bool (decide (cpyS 0 x0_3 0 = 124))) :: (74, .bool (decide (cpyS 0 x0_3 0 = 124))) :: (63, .bool false) :: (63, .bool (decide (cpyS 0 x0_3 0 = 61))) :: (73, .bool (decide (cpyS 0 x0_3 0 = 61))) :: (63, .bool false) :: E12)
                                    refine ok_run 6 (p' := g41p66) (env' := E13) (H' := (mkH [⟨[.int .u8 (cpyS 0 x0_3 0), .int .u8 (cpyS 0 x0_3 1), .int .u8 (cpyS 0 x0_3 2)], 3, false⟩])) (by kernel_rfl) ?_
                                    refine ok_keep [62, 63] (env' := [(62, .int .u8 (cpyS 0 x0_3 0)), (63, .bool (decide (cpyS 0 x0_3 0 = 124)))]) (by kernel_rfl) ?_
                                    refine ok_split 63 (b := decide (cpyS 0 x0_3 0 = 124)) (by kernel_rfl) (fun hb => ?_) (fun hb => ?_)
                                    · refine ok_run 2 (p' := g41p25) (env' := [(63, .bool true), (62, .int .u8 (cpyS 0 x0_3 0)), (63, .bool (decide (cpyS 0 x0_3 0 = 124)))]) (H' := (mkH [⟨[.int .u8 (cpyS 0 x0_3 0), .int .u8 (cpyS 0 x0_3 1), .int .u8 (cpyS 0 x0_3 2)], 3, false⟩])) (by kernel_rfl) ?_
                                      refine ok_keep [63] (env' := [(63, .bool true)]) (by kernel_rfl) ?_
                                      refine ok_cut [] [⟨[.int .u8 (cpyS 0 x0_3 0), .int .u8 (cpyS 0 x0_3 1), .int .u8 (cpyS 0 x0_3 2)], 3, false⟩] (by kernel_rfl) rfl (by kernel_rfl) trivial ?_
                                      exact hj4 true
                                    · let E14 : Env := [(63, .bool (decide (cpyS 0 x0_3 0 = 33))), (75, .bool (decide (cpyS 0 x0_3 0 = 33))), (63, .bool false), (62, .int .u8 (cpyS 0 x0_3 0)), (63, .bool (decide (cpyS 0 x0_3 0 = 124)))]
                                      refine ok_run 6 (p' := g41p70) (env' := E14) (H' := (mkH [⟨[.int .u8 (cpyS 0 x0_3 0), .int .u8 (cpyS 0 x0_3 1), .int .u8 (cpyS 0 x0_3 2)], 3, false⟩])) (by kernel_rfl) ?_
                                      refine ok_split 63 (b := decide (cpyS 0 x0_3 0 = 33)) (by kernel_rfl) (fun hb => ?_) (fun hb => ?_)
                                      · refine ok_run 2 (p' := g41p25) (env' := ((63, .bool true) :: E14)) (H' := (mkH [⟨[.int .u8 (cpyS 0 x0_3 0), .int .u8 (cpyS 0 x0_3 1), .int .u8 (cpyS 0 x0_3 2)], 3, false⟩])) (by kernel_rfl) ?_
                                        refine ok_keep [63] (env' := [(63, .bool true)]) (by kernel_rfl) ?_
                                        refine ok_cut [] [⟨[.int .u8 (cpyS 0 x0_3 0), .int .u8 (cpyS 0 x0_3 1), .int .u8 (cpyS 0 x0_3 2)], 3, false⟩] (by kernel_rfl) rfl (by kernel_rfl) trivial ?_
                                        exact hj4 true
                                      · refine ok_run 6 (p' := g41p74) (env' := ((63, .bool (decide (cpyS 0 x0_3 0 = 35))) :: (76, .bool (decide (cpyS 0 x0_3 0 = 35))) :: (63, .bool false) :: E14)) (H' := (mkH [⟨[.int .u8 (cpyS 0 x0_3 0), .int .u8 (cpyS 0 x0_3 1), .int .u8 (cpyS 0 x0_3 2)], 3, false⟩])) (by kernel_rfl) ?_
                                        refine ok_split 63 (b := decide (cpyS 0 x0_3 0 = 35)) (by kernel_rfl) (fun hb => ?_) (fun hb => ?_)
                                        · refine ok_run 2 (p' := g41p25) (env' := ((63, .bool true) :: (63, .bool (decide (cpyS 0 x0_3 0 = 35))) :: (76, .bool (decide (cpyS 0 x0_3 0 = 35))) :: (63, .bool false) :: E14)) (H' := (mkH [⟨[.int .u8 (cpyS 0 x0_3 0), .int .u8 (cpyS 0 x0_3 1), .int .u8 (cpyS 0 x0_3 2)], 3, false⟩])) (by kernel_rfl) ?_
                                          refine ok_keep [63] (env' := [(63, .bool true)]) (by kernel_rfl) ?_
                                          refine ok_cut [] [⟨[.int .u8 (cpyS 0 x0_3 0), .int .u8 (cpyS 0 x0_3 1), .int .u8 (cpyS 0 x0_3 2)], 3, false⟩] (by kernel_rfl) rfl (by kernel_rfl) trivial ?_
                                          exact hj4 true
                                        · let E15 : Env := ((63, .bool (decide (cpyS 0 x0_3 0 = 43))) :: (77, .bool (decide (cpyS 0 x0_3 0 = 43))) :: (63, .bool false) :: (63, .bool (decide (cpyS 0 x0_3 0 = 35))) :: (76, .bool (decide (cpyS 0 x0_3 0 = 35))) :: (63, .bool false) :: E14)
                                          refine ok_run 6 (p' := g41p76) (env' := E15) (H' := (mkH [⟨[.int .u8 (cpyS 0 x0_3 0), .int .u8 (cpyS 0 x0_3 1), .int .u8 (cpyS 0 x0_3 2)], 3, false⟩])) (by kernel_rfl) ?_
                                          refine ok_keep [62, 63] (env' := [(62, .int .u8 (cpyS 0 x0_3 0)), (63, .bool (decide (cpyS 0 x0_3 0 = 43)))]) (by kernel_rfl) ?_
                                          refine ok_split 63 (b := decide (cpyS 0 x0_3 0 = 43)) (by kernel_rfl) (fun hb => ?_) (fun hb => ?_)
                                          · refine ok_run 2 (p' := g41p25) (env' := [(63, .bool true), (62, .int .u8 (cpyS 0 x0_3 0)), (63, .bool (decide (cpyS 0 x0_3 0 = 43)))]) (H' := (mkH [⟨[.int .u8 (cpyS 0 x0_3 0), .int .u8 (cpyS 0 x0_3 1), .int .u8 (cpyS 0 x0_3 2)], 3, false⟩])) (by kernel_rfl) ?_
                                            refine ok_keep [63] (env' := [(63, .bool true)]) (by kernel_rfl) ?_
                                            refine ok_cut [] [⟨[.int .u8 (cpyS 0 x0_3 0), .int .u8 (cpyS 0 x0_3 1), .int .u8 (cpyS 0 x0_3 2)], 3, false⟩] (by kernel_rfl) rfl (by kernel_rfl) trivial ?_
                                            exact hj4 true
                                          · let E16 : Env := [(63, .bool (decide (cpyS 0 x0_3 0 = 45))), (78, .bool (decide (cpyS 0 x0_3 0 = 45))), (63, .bool false), (62, .int .u8 (cpyS 0 x0_3 0)), (63, .bool (decide (cpyS 0 x0_3 0 = 43)))]
                                            refine ok_run 6 (p' := g41p78) (env' := E16) (H' := (mkH [⟨[.int .u8 (cpyS 0 x0_3 0), .int .u8 (cpyS 0 x0_3 1), .int .u8 (cpyS 0 x0_3 2)], 3, false⟩])) (by kernel_rfl) ?_
                                            refine ok_split 63 (b := decide (cpyS 0 x0_3 0 = 45)) (by kernel_rfl) (fun hb => ?_) (fun hb => ?_)
                                            · refine ok_run 2 (p' := g41p25) (env' := ((63, .bool true) :: E16)) (H' := (mkH [⟨[.int .u8 (cpyS 0 x0_3 0), .int .u8 (cpyS 0 x0_3 1), .int .u8 (cpyS 0 x0_3 2)], 3, false⟩])) (by kernel_rfl) ?_
                                              refine ok_keep [63] (env' := [(63, .bool true)]) (by kernel_rfl) ?_
                                              refine ok_cut [] [⟨[.int .u8 (cpyS 0 x0_3 0), .int .u8 (cpyS 0 x0_3 1), .int .u8 (cpyS 0 x0_3 2)], 3, false⟩] (by kernel_rfl) rfl (by kernel_rfl) trivial ?_
                                              exact hj4 true
                                            · refine ok_run 6 (p' := g41p80) (env' := ((63, .bool (decide (cpyS 0 x0_3 0 = 42))) :: (79, .bool (decide (cpyS 0 x0_3 0 = 42))) :: (63, .bool false) :: E16)) (H' := (mkH [⟨[.int .u8 (cpyS 0 x0_3 0), .int .u8 (cpyS 0 x0_3 1), .int .u8 (cpyS 0 x0_3 2)], 3, false⟩])) (by kernel_rfl) ?_
                                              refine ok_split 63 (b := decide (cpyS 0 x0_3 0 = 42)) (by kernel_rfl) (fun hb => ?_) (fun hb => ?_)
                                              · refine ok_run 2 (p' := g41p25) (env' := ((63, .bool true) :: (63, .bool (decide (cpyS 0 x0_3 0 = 42))) :: (79, .bool (decide (cpyS 0 x0_3 0 = 42))) :: (63, .bool false) :: E16)) (H' := (mkH [⟨[.int .u8 (cpyS 0 x0_3 0), .int .u8 (cpyS 0 x0_3 1), .int .u8 (cpyS 0 x0_3 2)], 3, false⟩])) (by kernel_rfl) ?_
                                                refine ok_keep [63] (env' := [(63, .bool true)]) (by kernel_rfl) ?_
                                                refine ok_cut [] [⟨[.int .u8 (cpyS 0 x0_3 0), .int .u8 (cpyS 0 x0_3 1), .int .u8 (cpyS 0 x0_3 2)], 3, false⟩] (by kernel_rfl) rfl (by kernel_rfl) trivial ?_
                                                exact hj4 true
                                              · let E17 : Env := ((63, .bool (decide (cpyS 0 x0_3 0 = 47))) :: (80, .bool (decide (cpyS 0 x0_3 0 = 47))) :: (63, .bool false) :: (63, .bool (decide (cpyS 0 x0_3 0 = 42))) :: (79, .bool (decide (cpyS 0 x0_3 0 = 42))) :: (63, .bool false) :: E16)
                                                refine ok_run 6 (p' := g41p82) (env' := E17) (H' := (mkH [⟨[.int .u8 (cpyS 0 x0_3 0), .int .u8 (cpyS 0 x0_3 1), .int .u8 (cpyS 0 x0_3 2)], 3, false⟩])) (by kernel_rfl) ?_
                                                refine ok_keep [62, 63] (env' := [(62, .int .u8 (cpyS 0 x0_3 0)), (63, .bool (decide (cpyS 0 x0_3 0 = 47)))]) (by kernel_rfl) ?_
                                                refine ok_split 63 (b := decide (cpyS 0 x0_3 0 = 47)) (by kernel_rfl) (fun hb => ?_) (fun hb => ?_)
                                                · refine ok_run 2 (p' := g41p25) (env' := [(63, .bool true), (62, .int .u8 (cpyS 0 x0_3 0)), (63, .bool (decide (cpyS 0 x0_3 0 = 47)))]) (H' := (mkH [⟨[.int .u8 (cpyS 0 x0_3 0), .int .u8 (cpyS 0 x0_3 1), .int .u8 (cpyS 0 x0_3 2)], 3, false⟩])) (by kernel_rfl) ?_
                                                  refine ok_keep [63] (env' := [(63, .bool true)]) (by kernel_rfl) ?_
                                                  refine ok_cut [] [⟨[.int .u8 (cpyS 0 x0_3 0), .int .u8 (cpyS 0 x0_3 1), .int .u8 (cpyS 0 x0_3 2)], 3, false⟩] (by kernel_rfl) rfl (by kernel_rfl) trivial ?_
                                                  exact hj4 true
                                                · let E18 : Env := [(63, .bool (decide (cpyS 0 x0_3 0 = 60))), (81, .bool (decide (cpyS 0 x0_3 0 = 60))), (63, .bool false), (62, .int .u8 (cpyS 0 x0_3 0)), (63, .bool (decide (cpyS 0 x0_3 0 = 47)))]
                                                  refine ok_run 6 (p' := g41p84) (env' := E18) (H' := (mkH [⟨[.int .u8 (cpyS 0 x0_3 0), .int .u8 (cpyS 0 x0_3 1), .int .u8 (cpyS 0 x0_3 2)], 3, false⟩])) (by kernel_rfl) ?_
                                                  refine ok_split 63 (b := decide (cpyS 0 x0_3 0 = 60)) (by kernel_rfl) (fun hb => ?_) (fun hb => ?_)
                                                  · refine ok_run 2 (p' := g41p25) (env' := ((63, .bool true) :: E18)) (H' := (mkH [⟨[.int .u8 (cpyS 0 x0_3 0), .int .u8 (cpyS 0 x0_3 1), .int .u8 (cpyS 0 x0_3 2)], 3, false⟩])) (by kernel_rfl) ?_
                                                    refine ok_keep [63] (env' := [(63, .bool true)]) (by kernel_rfl) ?_
                                                    refine ok_cut [] [⟨[.int .u8 (cpyS 0 x0_3 0), .int .u8 (cpyS 0 x0_3 1), .int .u8 (cpyS 0 x0_3 2)], 3, false⟩] (by kernel_rfl) rfl (by kernel_rfl) trivial ?_
                                                    exact hj4 true
                                                  · refine ok_run 6 (p' := g41p86) (env' := ((63, .bool (decide (cpyS 0 x0_3 0 = 62))) :: (82, .bool (decide (cpyS 0 x0_3 0 = 62))) :: (63, .bool false) :: E18)) (H' := (mkH [⟨[.int .u8 (cpyS 0 x0_3 0), .int .u8 (cpyS 0 x0_3 1), .int .u8 (cpyS 0 x0_3 2)], 3, false⟩])) (by kernel_rfl) ?_
                                                    refine ok_split 63 (b := decide (cpyS 0 x0_3 0 = 62)) (by kernel_rfl) (fun hb => ?_) (fun hb => ?_)
                                                    · refine ok_run 2 (p' := g41p25) (env' := ((63, .bool true) :: (63, .bool (decide (cpyS 0 x0_3 0 = 62))) :: (82, .bool (decide (cpyS 0 x0_3 0 = 62))) :: (63, .bool false) :: E18)) (H' := (mkH [⟨[.int .u8 (cpyS 0 x0_3 0), .int .u8 (cpyS 0 x0_3 1), .int .u8 (cpyS 0 x0_3 2)], 3, false⟩])) (by kernel_rfl) ?_
                                                      refine ok_keep [63] (env' := [(63, .bool true)]) (by kernel_rfl) ?_
                                                      refine ok_cut [] [⟨[.int .u8 (cpyS 0 x0_3 0), .int .u8 (cpyS 0 x0_3 1), .int .u8 (cpyS 0 x0_3 2)], 3, false⟩] (by kernel_rfl) rfl (by kernel_rfl) trivial ?_
                                                      exact hj4 true
                                                    · let E19 : Env := ((63, .bool (decide (cpyS 0 x0_3 0 = 46))) :: (83, .bool (decide (cpyS 0 x0_3 0 = 46))) :: (63, .bool false) :: (63, .bool (decide (cpyS 0 x0_3 0 = 62))) :: (82, .bool (decide (cpyS 0 x0_3 0 = 62))) :: (63, .bool false) :: E18)
                                                      refine ok_run 5 (p' := g41p25) (env' := E19) (H' := (mkH [⟨[.int .u8 (cpyS 0 x0_3 0), .int .u8 (cpyS 0 x0_3 1), .int .u8 (cpyS 0 x0_3 2)], 3, false⟩])) (by kernel_rfl) ?_
                                                      refine ok_keep [63] (env' := [(63, .bool (decide (cpyS 0 x0_3 0 = 46)))]) (by kernel_rfl) ?_
                                                      refine ok_cut [] [⟨[.int .u8 (cpyS 0 x0_3 0), .int .u8 (cpyS 0 x0_3 1), .int .u8 (cpyS 0 x0_3 2)], 3, false⟩] (by kernel_rfl) rfl (by kernel_rfl) trivial ?_
                                                      exact hj4 (decide (cpyS 0 x0_3 0 = 46))
          · refine ok_split 30 (b := ((decide (cpyS 0 x0_3 0 = 60)) && ((decide (cpyS 0 x0_3 1 = 60)) && true))) (by kernel_rfl) (fun hb => ?_) (fun hb => ?_)
            · refine ok_run 2 (p' := g41p16) (env' := [(30, .bool true), (5, .ptr 0 3 0), (29, .agg [.int .u8 (cpyS 0 x0_3 0), .int .u8 (cpyS 0 x0_3 1)]), (30, .bool ((decide (cpyS 0 x0_3 0 = 60)) && ((decide (cpyS 0 x0_3 1 = 60)) && true)))]) (H' := (mkH [⟨[.int .u8 (cpyS 0 x0_3 0), .int .u8 (cpyS 0 x0_3 1), .int .u8 (cpyS 0 x0_3 2)], 3, false⟩])) (by kernel_rfl) ?_
              refine ok_keep [5, 30] (env' := [(5, .ptr 0 3 0), (30, .bool true)]) (by kernel_rfl) ?_
              exact hj3 true
            · let E20 : Env := [(30, .bool ((decide (cpyS 0 x0_3 0 = 62)) && ((decide (cpyS 0 x0_3 1 = 62)) && true))), (34, .bool ((decide (cpyS 0 x0_3 0 = 62)) && ((decide (cpyS 0 x0_3 1 = 62)) && true))), (33, .agg [.int .u8 62, .int .u8 62]), (30, .bool false), (5, .ptr 0 3 0), (29, .agg [.int .u8 (cpyS 0 x0_3 0), .int .u8 (cpyS 0 x0_3 1)]), (30, .bool ((decide (cpyS 0 x0_3 0 = 60)) && ((decide (cpyS 0 x0_3 1 = 60)) && true)))]
              refine ok_run 7 (p' := g41p20) (env' := E20) (H' := (mkH [⟨[.int .u8 (cpyS 0 x0_3 0), .int .u8 (cpyS 0 x0_3 1), .int .u8 (cpyS 0 x0_3 2)], 3, false⟩])) (by kernel_rfl) ?_
              refine ok_split 30 (b := ((decide (cpyS 0 x0_3 0 = 62)) && ((decide (cpyS 0 x0_3 1 = 62)) && true))) (by kernel_rfl) (fun hb => ?_) (fun hb => ?_)
              · refine ok_run 2 (p' := g41p16) (env' := ((30, .bool true) :: E20)) (H' := (mkH [⟨[.int .u8 (cpyS 0 x0_3 0), .int .u8 (cpyS 0 x0_3 1), .int .u8 (cpyS 0 x0_3 2)], 3, false⟩])) (by kernel_rfl) ?_
                refine ok_keep [5, 30] (env' := [(5, .ptr 0 3 0), (30, .bool true)]) (by kernel_rfl) ?_
                exact hj3 true
              · refine ok_run 7 (p' := g41p24) (env' := ((30, .bool ((decide (cpyS 0 x0_3 0 = 45)) && ((decide (cpyS 0 x0_3 1 = 62)) && true))) :: (36, .bool ((decide (cpyS 0 x0_3 0 = 45)) && ((decide (cpyS 0 x0_3 1 = 62)) && true))) :: (35, .agg [.int .u8 45, .int .u8 62]) :: (30, .bool false) :: E20)) (H' := (mkH [⟨[.int .u8 (cpyS 0 x0_3 0), .int .u8 (cpyS 0 x0_3 1), .int .u8 (cpyS 0 x0_3 2)], 3, false⟩])) (by kernel_rfl) ?_
                refine ok_keep [5, 29, 30] (env' := [(5, .ptr 0 3 0), (29, .agg [.int .u8 (cpyS 0 x0_3 0), .int .u8 (cpyS 0 x0_3 1)]), (30, .bool ((decide (cpyS 0 x0_3 0 = 45)) && ((decide (cpyS 0 x0_3 1 = 62)) && true)))]) (by kernel_rfl) ?_
                refine ok_split 30 (b := ((decide (cpyS 0 x0_3 0 = 45)) && ((decide (cpyS 0 x0_3 1 = 62)) && true))) (by kernel_rfl) (fun hb => ?_) (fun hb => ?_)
                · refine ok_run 2 (p' := g41p16) (env' := [(30, .bool true), (5, .ptr 0 3 0), (29, .agg [.int .u8 (cpyS 0 x0_3 0), .int .u8 (cpyS 0 x0_3 1)]), (30, .bool ((decide (cpyS 0 x0_3 0 = 45)) && ((decide (cpyS 0 x0_3 1 = 62)) && true)))]) (H' := (mkH [⟨[.int .u8 (cpyS 0 x0_3 0), .int .u8 (cpyS 0 x0_3 1), .int .u8 (cpyS 0 x0_3 2)], 3, false⟩])) (by kernel_rfl) ?_
                  refine ok_keep [5, 30] (env' := [(5, .ptr 0 3 0), (30, .bool true)]) (by kernel_rfl) ?_
                  exact hj3 true
                · let E21 : Env := [(30, .bool ((decide (cpyS 0 x0_3 0 = 60)) && ((decide (cpyS 0 x0_3 1 = 45)) && true))), (38, .bool ((decide (cpyS 0 x0_3 0 = 60)) && ((decide (cpyS 0 x0_3 1 = 45)) && true))), (37, .agg [.int .u8 60, .int .u8 45]), (30, .bool false), (5, .ptr 0 3 0), (29, .agg [.int .u8 (cpyS 0 x0_3 0), .int .u8 (cpyS 0 x0_3 1)]), (30, .bool ((decide (cpyS 0 x0_3 0 = 45)) && ((decide (cpyS 0 x0_3 1 = 62)) && true)))]
                  refine ok_run 7 (p' := g41p31) (env' := E21) (H' := (mkH [⟨[.int .u8 (cpyS 0 x0_3 0), .int .u8 (cpyS 0 x0_3 1), .int .u8 (cpyS 0 x0_3 2)], 3, false⟩])) (by kernel_rfl) ?_
                  refine ok_split 30 (b := ((decide (cpyS 0 x0_3 0 = 60)) && ((decide (cpyS 0 x0_3 1 = 45)) && true))) (by kernel_rfl) (fun hb => ?_) (fun hb => ?_)
                  · refine ok_run 2 (p' := g41p16) (env' := ((30, .bool true) :: E21)) (H' := (mkH [⟨[.int .u8 (cpyS 0 x0_3 0), .int .u8 (cpyS 0 x0_3 1), .int .u8 (cpyS 0 x0_3 2)], 3, false⟩])) (by kernel_rfl) ?_
                    refine ok_keep [5, 30] (env' := [(5, .ptr 0 3 0), (30, .bool true)]) (by kernel_rfl) ?_
                    exact hj3 true
                  · refine ok_run 7 (p' := g41p35) (env' := ((30, .bool ((decide (cpyS 0 x0_3 0 = 60)) && ((decide (cpyS 0 x0_3 1 = 61)) && true))) :: (40, .bool ((decide (cpyS 0 x0_3 0 = 60)) && ((decide (cpyS 0 x0_3 1 = 61)) && true))) :: (39, .agg [.int .u8 60, .int .u8 61]) :: (30, .bool false) :: E21)) (H' := (mkH [⟨[.int .u8 (cpyS 0 x0_3 0), .int .u8 (cpyS 0 x0_3 1), .int .u8 (cpyS 0 x0_3 2)], 3, false⟩])) (by kernel_rfl) ?_
                    refine ok_keep [5, 29, 30] (env' := [(5, .ptr 0 3 0), (29, .agg [.int .u8 (cpyS 0 x0_3 0), .int .u8 (cpyS 0 x0_3 1)]), (30, .bool ((decide (cpyS 0 x0_3 0 = 60)) && ((decide (cpyS 0 x0_3 1 = 61)) && true)))]) (by kernel_rfl) ?_
                    refine ok_split 30 (b := ((decide (cpyS 0 x0_3 0 = 60)) && ((decide (cpyS 0 x0_3 1 = 61)) && true))) (by kernel_rfl) (fun hb => ?_) (fun hb => ?_)
                    · refine ok_run 2 (p' := g41p16) (env' := [(30, .bool true), (5, .ptr 0 3 0), (29, .agg [.int .u8 (cpyS 0 x0_3 0), .int .u8 (cpyS 0 x0_3 1)]), (30, .bool ((decide (cpyS 0 x0_3 0 = 60)) && ((decide (cpyS 0 x0_3 1 = 61)) && true)))]) (H' := (mkH [⟨[.int .u8 (cpyS 0 x0_3 0), .int .u8 (cpyS 0 x0_3 1), .int .u8 (cpyS 0 x0_3 2)], 3, false⟩])) (by kernel_rfl) ?_
                      refine ok_keep [5, 30] (env' := [(5, .ptr 0 3 0), (30, .bool true)]) (by kernel_rfl) ?_
                      exact hj3 true
                    · let E22 : Env := [(30, .bool ((decide (cpyS 0 x0_3 0 = 61)) && ((decide (cpyS 0 x0_3 1 = 62)) && true))), (42, .bool ((decide (cpyS 0 x0_3 0 = 61)) && ((decide (cpyS 0 x0_3 1 = 62)) && true))), (41, .agg [.int .u8 61, .int .u8 62]), (30, .bool false), (5, .ptr 0 3 0), (29, .agg [.int .u8 (cpyS 0 x0_3 0), .int .u8 (cpyS 0 x0_3 1)]), (30, .bool ((decide (cpyS 0 x0_3 0 = 60)) && ((decide (cpyS 0 x0_3 1 = 61)) && true)))]
                      refine ok_run 7 (p' := g41p39) (env' := E22) (H' := (mkH [⟨[.int .u8 (cpyS 0 x0_3 0), .int .u8 (cpyS 0 x0_3 1), .int .u8 (cpyS 0 x0_3 2)], 3, false⟩])) (by kernel_rfl) ?_
                      refine ok_split 30 (b := ((decide (cpyS 0 x0_3 0 = 61)) && ((decide (cpyS 0 x0_3 1 = 62)) && true))) (by kernel_rfl) (fun hb => ?_) (fun hb => ?_)
                      · refine ok_run 2 (p' := g41p16) (env' := ((30, .bool true) :: E22)) (H' := (mkH [⟨[.int .u8 (cpyS 0 x0_3 0), .int .u8 (cpyS 0 x0_3 1), .int .u8 (cpyS 0 x0_3 2)], 3, false⟩])) (by kernel_rfl) ?_
                        refine ok_keep [5, 30] (env' := [(5, .ptr 0 3 0), (30, .bool true)]) (by kernel_rfl) ?_
                        exact hj3 true
                      · refine ok_run 7 (p' := g41p43) (env' := ((30, .bool ((decide (cpyS 0 x0_3 0 = 58)) && ((decide (cpyS 0 x0_3 1 = 61)) && true))) :: (44, .bool ((decide (cpyS 0 x0_3 0 = 58)) && ((decide (cpyS 0 x0_3 1 = 61)) && true))) :: (43, .agg [.int .u8 58, .int .u8 61]) :: (30, .bool false) :: E22)) (H' := (mkH [⟨[.int .u8 (cpyS 0 x0_3 0), .int .u8 (cpyS 0 x0_3 1), .int .u8 (cpyS 0 x0_3 2)], 3, false⟩])) (by kernel_rfl) ?_
                        refine ok_keep [5, 29, 30] (env' := [(5, .ptr 0 3 0), (29, .agg [.int .u8 (cpyS 0 x0_3 0), .int .u8 (cpyS 0 x0_3 1)]), (30, .bool ((decide (cpyS 0 x0_3 0 = 58)) && ((decide (cpyS 0 x0_3 1 = 61)) && true)))]) (by kernel_rfl) ?_
                        refine ok_split 30 (b := ((decide (cpyS 0 x0_3 0 = 58)) && ((decide (cpyS 0 x0_3 1 = 61)) && true))) (by kernel_rfl) (fun hb => ?_) (fun hb => ?_)
                        · refine ok_run 2 (p' := g41p16) (env' := [(30, .bool true), (5, .ptr 0 3 0), (29, .agg [.int .u8 (cpyS 0 x0_3 0), .int .u8 (cpyS 0 x0_3 1)]), (30, .bool ((decide (cpyS 0 x0_3 0 = 58)) && ((decide (cpyS 0 x0_3 1 = 61)) && true)))]) (H' := (mkH [⟨[.int .u8 (cpyS 0 x0_3 0), .int .u8 (cpyS 0 x0_3 1), .int .u8 (cpyS 0 x0_3 2)], 3, false⟩])) (by kernel_rfl) ?_
                          refine ok_keep [5, 30] (env' := [(5, .ptr 0 3 0), (30, .bool true)]) (by kernel_rfl) ?_
                          exact hj3 true
                        · let E23 : Env := [(30, .bool ((decide (cpyS 0 x0_3 0 = 58)) && ((decide (cpyS 0 x0_3 1 = 58)) && true))), (46, .bool ((decide (cpyS 0 x0_3 0 = 58)) && ((decide (cpyS 0 x0_3 1 = 58)) && true))), (45, .agg [.int .u8 58, .int .u8 58]), (30, .bool false), (5, .ptr 0 3 0), (29, .agg [.int .u8 (cpyS 0 x0_3 0), .int .u8 (cpyS 0 x0_3 1)]), (30, .bool ((decide (cpyS 0 x0_3 0 = 58)) && ((decide (cpyS 0 x0_3 1 = 61)) && true)))]
                          refine ok_run 7 (p' := g41p47) (env' := E23) (H' := (mkH [⟨[.int .u8 (cpyS 0 x0_3 0), .int .u8 (cpyS 0 x0_3 1), .int .u8 (cpyS 0 x0_3 2)], 3, false⟩])) (by kernel_rfl) ?_
                          refine ok_split 30 (b := ((decide (cpyS 0 x0_3 0 = 58)) && ((decide (cpyS 0 x0_3 1 = 58)) && true))) (by kernel_rfl) (fun hb => ?_) (fun hb => ?_)
                          · refine ok_run 2 (p' := g41p16) (env' := ((30, .bool true) :: E23)) (H' := (mkH [⟨[.int .u8 (cpyS 0 x0_3 0), .int .u8 (cpyS 0 x0_3 1), .int .u8 (cpyS 0 x0_3 2)], 3, false⟩])) (by kernel_rfl) ?_
                            refine ok_keep [5, 30] (env' := [(5, .ptr 0 3 0), (30, .bool true)]) (by kernel_rfl) ?_
                            exact hj3 true
                          · refine ok_run 7 (p' := g41p51) (env' := ((30, .bool ((decide (cpyS 0 x0_3 0 = 61)) && ((decide (cpyS 0 x0_3 1 = 61)) && true))) :: (48, .bool ((decide (cpyS 0 x0_3 0 = 61)) && ((decide (cpyS 0 x0_3 1 = 61)) && true))) :: (47, .agg [.int .u8 61, .int .u8 61]) :: (30, .bool false) :: E23)) (H' := (mkH [⟨[.int .u8 (cpyS 0 x0_3 0), .int .u8 (cpyS 0 x0_3 1), .int .u8 (cpyS 0 x0_3 2)], 3, false⟩])) (by kernel_rfl) ?_
                            refine ok_keep [5, 29, 30] (env' := [(5, .ptr 0 3 0), (29, .agg [.int .u8 (cpyS 0 x0_3 0), .int .u8 (cpyS 0 x0_3 1)]), (30, .bool ((decide (cpyS 0 x0_3 0 = 61)) && ((decide (cpyS 0 x0_3 1 = 61)) && true)))]) (by kernel_rfl) ?_
                            refine ok_split 30 (b := ((decide (cpyS 0 x0_3 0 = 61)) && ((decide (cpyS 0 x0_3 1 = 61)) && true))) (by kernel_rfl) (fun hb => ?_) (fun hb => ?_)
                            · refine ok_run 2 (p' := g41p16) (env' := [(30, .bool true), (5, .ptr 0 3 0), (29, .agg [.int .u8 (cpyS 0 x0_3 0), .int .u8 (cpyS 0 x0_3 1)]), (30, .bool ((decide (cpyS 0 x0_3 0 = 61)) && ((decide (cpyS 0 x0_3 1 = 61)) && true)))]) (H' := (mkH [⟨[.int .u8 (cpyS 0 x0_3 0), .int .u8 (cpyS 0 x0_3 1), .int .u8 (cpyS 0 x0_3 2)], 3, false⟩])) (by kernel_rfl) ?_
                              refine ok_keep [5, 30] (env' := [(5, .ptr 0 3 0), (30, .bool true)]) (by kernel_rfl) ?_
                              exact hj3 true
                            · let E24 : Env := [(30, .bool ((decide (cpyS 0 x0_3 0 = 47)) && ((decide (cpyS 0 x0_3 1 = 61)) && true))), (50, .bool ((decide (cpyS 0 x0_3 0 = 47)) && ((decide (cpyS 0 x0_3 1 = 61)) && true))), (49, .agg [.int .u8 47, .int .u8 61]), (30, .bool false), (5, .ptr 0 3 0), (29, .agg [.int .u8 (cpyS 0 x0_3 0), .int .u8 (cpyS 0 x0_3 1)]), (30, .bool ((decide (cpyS 0 x0_3 0 = 61)) && ((decide (cpyS 0 x0_3 1 = 61)) && true)))]
                              refine ok_run 7 (p' := g41p55) (env' := E24) (H' := (mkH [⟨[.int .u8 (cpyS 0 x0_3 0), .int .u8 (cpyS 0 x0_3 1), .int .u8 (cpyS 0 x0_3 2)], 3, false⟩])) (by kernel_rfl) ?_
                              refine ok_split 30 (b := ((decide (cpyS 0 x0_3 0 = 47)) && ((decide (cpyS 0 x0_3 1 = 61)) && true))) (by kernel_rfl) (fun hb => ?_) (fun hb => ?_)
                              · refine ok_run 2 (p' := g41p16) (env' := ((30, .bool true) :: E24)) (H' := (mkH [⟨[.int .u8 (cpyS 0 x0_3 0), .int .u8 (cpyS 0 x0_3 1), .int .u8 (cpyS 0 x0_3 2)], 3, false⟩])) (by kernel_rfl) ?_
                                refine ok_keep [5, 30] (env' := [(5, .ptr 0 3 0), (30, .bool true)]) (by kernel_rfl) ?_
                                exact hj3 true
                              · refine ok_run 7 (p' := g41p59) (env' := ((30, .bool ((decide (cpyS 0 x0_3 0 = 61)) && ((decide (cpyS 0 x0_3 1 = 60)) && true))) :: (52, .bool ((decide (cpyS 0 x0_3 0 = 61)) && ((decide (cpyS 0 x0_3 1 = 60)) && true))) :: (51, .agg [.int .u8 61, .int .u8 60]) :: (30, .bool false) :: E24)) (H' := (mkH [⟨[.int .u8 (cpyS 0 x0_3 0), .int .u8 (cpyS 0 x0_3 1), .int .u8 (cpyS 0 x0_3 2)], 3, false⟩])) (by kernel_rfl) ?_
                                refine ok_keep [5, 29, 30] (env' := [(5, .ptr 0 3 0), (29, .agg [.int .u8 (cpyS 0 x0_3 0), .int .u8 (cpyS 0 x0_3 1)]), (30, .bool ((decide (cpyS 0 x0_3 0 = 61)) && ((decide (cpyS 0 x0_3 1 = 60)) && true)))]) (by kernel_rfl) ?_
                                refine ok_split 30 (b := ((decide (cpyS 0 x0_3 0 = 61)) && ((decide (cpyS 0 x0_3 1 = 60)) && true))) (by kernel_rfl) (fun hb => ?_) (fun hb => ?_)
                                · refine ok_run 2 (p' := g41p16) (env' := [(30, .bool true), (5, .ptr 0 3 0), (29, .agg [.int .u8 (cpyS 0 x0_3 0), .int .u8 (cpyS 0 x0_3 1)]), (30, .bool ((decide (cpyS 0 x0_3 0 = 61)) && ((decide (cpyS 0 x0_3 1 = 60)) && true)))]) (H' := (mkH [⟨[.int .u8 (cpyS 0 x0_3 0), .int .u8 (cpyS 0 x0_3 1), .int .u8 (cpyS 0 x0_3 2)], 3, false⟩])) (by kernel_rfl) ?_
                                  refine ok_keep [5, 30] (env' := [(5, .ptr 0 3 0), (30, .bool true)]) (by kernel_rfl) ?_
                                  exact hj3 true
                                · let E25 : Env := [(30, .bool ((decide (cpyS 0 x0_3 0 = 62)) && ((decide (cpyS 0 x0_3 1 = 61)) && true))), (54, .bool ((decide (cpyS 0 x0_3 0 = 62)) && ((decide (cpyS 0 x0_3 1 = 61)) && true))), (53, .agg [.int .u8 62, .int .u8 61]), (30, .bool false), (5, .ptr 0 3 0), (29, .agg [.int .u8 (cpyS 0 x0_3 0), .int .u8 (cpyS 0 x0_3 1)]), (30, .bool ((decide (cpyS 0 x0_3 0 = 61)) && ((decide (cpyS 0 x0_3 1 = 60)) && true)))]
                                  refine ok_run 7 (p' := g41p63) (env' := E25) (H' := (mkH [⟨[.int .u8 (cpyS 0 x0_3 0), .int .u8 (cpyS 0 x0_3 1), .int .u8 (cpyS 0 x0_3 2)], 3, false⟩])) (by kernel_rfl) ?_
                                  refine ok_split 30 (b := ((decide (cpyS 0 x0_3 0 = 62)) && ((decide (cpyS 0 x0_3 1 = 61)) && true))) (by kernel_rfl) (fun hb => ?_) (fun hb => ?_)
                                  · refine ok_run 2 (p' := g41p16) (env' := ((30, .bool true) :: E25)) (H' := (mkH [⟨[.int .u8 (cpyS 0 x0_3 0), .int .u8 (cpyS 0 x0_3 1), .int .u8 (cpyS 0 x0_3 2)], 3, false⟩])) (by kernel_rfl) ?_
                                    refine ok_keep [5, 30] (env' := [(5, .ptr 0 3 0), (30, .bool true)]) (by kernel_rfl) ?_
                                    exact hj3 true
                                  · refine ok_run 7 (p' := g41p67) (env' := ((30, .bool ((decide (cpyS 0 x0_3 0 = 124)) && ((decide (cpyS 0 x0_3 1 = 124)) && true))) :: (56, .bool ((decide (cpyS 0 x0_3 0 = 124)) && ((decide (cpyS 0 x0_3 1 = 124)) && true))) :: (55, .agg [.int .u8 124, .int .u8 124]) :: (30, .bool false) :: E25)) (H' := (mkH [⟨[.int .u8 (cpyS 0 x0_3 0), .int .u8 (cpyS 0 x0_3 1), .int .u8 (cpyS 0 x0_3 2)], 3, false⟩])) (by kernel_rfl) ?_
                                    refine ok_keep [5, 29, 30] (env' := [(5, .ptr 0 3 0), (29, .agg [.int .u8 (cpyS 0 x0_3 0), .int .u8 (cpyS 0 x0_3 1)]), (30, .bool ((decide (cpyS 0 x0_3 0 = 124)) && ((decide (cpyS 0 x0_3 1 = 124)) && true)))]) (by kernel_rfl) ?_
                                    refine ok_split 30 (b := ((decide (cpyS 0 x0_3 0 = 124)) && ((decide (cpyS 0 x0_3 1 = 124)) && true))) (by kernel_rfl) (fun hb => ?_) (fun hb => ?_)
                                    · refine ok_run 2 (p' := g41p16) (env' := [(30, .bool true), (5, .ptr 0 3 0), (29, .agg [.int .u8 (cpyS 0 x0_3 0), .int .u8 (cpyS 0 x0_3 1)]), (30, .bool ((decide (cpyS 0 x0_3 0 = 124)) && ((decide (cpyS 0 x0_3 1 = 124)) && true)))]) (H' := (mkH [⟨[.int .u8 (cpyS 0 x0_3 0), .int .u8 (cpyS 0 x0_3 1), .int .u8 (cpyS 0 x0_3 2)], 3, false⟩])) (by kernel_rfl) ?_
                                      refine ok_keep [5, 30] (env' := [(5, .ptr 0 3 0), (30, .bool true)]) (by kernel_rfl) ?_
                                      exact hj3 true
                                    · let E26 : Env := [(30, .bool ((decide (cpyS 0 x0_3 0 = 43)) && ((decide (cpyS 0 x0_3 1 = 43)) && true))), (58, .bool ((decide (cpyS 0 x0_3 0 = 43)) && ((decide (cpyS 0 x0_3 1 = 43)) && true))), (57, .agg [.int .u8 43, .int .u8 43]), (30, .bool false), (5, .ptr 0 3 0), (29, .agg [.int .u8 (cpyS 0 x0_3 0), .int .u8 (cpyS 0 x0_3 1)]), (30, .bool ((decide (cpyS 0 x0_3 0 = 124)) && ((decide (cpyS 0 x0_3 1 = 124)) && true)))]
                                      refine ok_run 7 (p' := g41p71) (env' := E26) (H' := (mkH [⟨[.int .u8 (cpyS 0 x0_3 0), .int .u8 (cpyS 0 x0_3 1), .int .u8 (cpyS 0 x0_3 2)], 3, false⟩])) (by kernel_rfl) ?_
                                      refine ok_split 30 (b := ((decide (cpyS 0 x0_3 0 = 43)) && ((decide (cpyS 0 x0_3 1 = 43)) && true))) (by kernel_rfl) (fun hb => ?_) (fun hb => ?_)
                                      · refine ok_run 2 (p' := g41p16) (env' := ((30, .bool true) :: E26)) (H' := (mkH [⟨[.int .u8 (cpyS 0 x0_3 0), .int .u8 (cpyS 0 x0_3 1), .int .u8 (cpyS 0 x0_3 2)], 3, false⟩])) (by kernel_rfl) ?_
                                        refine ok_keep [5, 30] (env' := [(5, .ptr 0 3 0), (30, .bool true)]) (by kernel_rfl) ?_
                                        exact hj3 true
                                      · refine ok_run 6 (p' := g41p16) (env' := ((30, .bool ((decide (cpyS 0 x0_3 0 = 45)) && ((decide (cpyS 0 x0_3 1 = 45)) && true))) :: (60, .bool ((decide (cpyS 0 x0_3 0 = 45)) && ((decide (cpyS 0 x0_3 1 = 45)) && true))) :: (59, .agg [.int .u8 45, .int .u8 45]) :: (30, .bool false) :: E26)) (H' := (mkH [⟨[.int .u8 (cpyS 0 x0_3 0), .int .u8 (cpyS 0 x0_3 1), .int .u8 (cpyS 0 x0_3 2)], 3, false⟩])) (by kernel_rfl) ?_
                                        refine ok_keep [5, 30] (env' := [(5, .ptr 0 3 0), (30, .bool ((decide (cpyS 0 x0_3 0 = 45)) && ((decide (cpyS 0 x0_3 1 = 45)) && true)))]) (by kernel_rfl) ?_
                                        exact hj3 ((decide (cpyS 0 x0_3 0 = 45)) && ((decide (cpyS 0 x0_3 1 = 45)) && true))
      · refine ok_split 20 (b := ((decide (cpyS 0 x0_3 0 = 61)) && ((decide (cpyS 0 x0_3 1 = 58)) && ((decide (cpyS 0 x0_3 2 = 61)) && true)))) (by kernel_rfl) (fun hb => ?_) (fun hb => ?_)
        · refine ok_run 2 (p' := g41p10) (env' := ((20, .bool true) :: E5)) (H' := (mkH [⟨[.int .u8 (cpyS 0 x0_3 0), .int .u8 (cpyS 0 x0_3 1), .int .u8 (cpyS 0 x0_3 2)], 3, false⟩])) (by kernel_rfl) ?_
          refine ok_keep [5, 20] (env' := [(5, .ptr 0 3 0), (20, .bool true)]) (by kernel_rfl) ?_
          exact hj2 true
        · refine ok_run 6 (p' := g41p10) (env' := ((20, .bool ((decide (cpyS 0 x0_3 0 = 61)) && ((decide (cpyS 0 x0_3 1 = 47)) && ((decide (cpyS 0 x0_3 2 = 61)) && true)))) :: (24, .bool ((decide (cpyS 0 x0_3 0 = 61)) && ((decide (cpyS 0 x0_3 1 = 47)) && ((decide (cpyS 0 x0_3 2 = 61)) && true)))) :: (23, .agg [.int .u8 61, .int .u8 47, .int .u8 61]) :: (20, .bool false) :: E5)) (H' := (mkH [⟨[.int .u8 (cpyS 0 x0_3 0), .int .u8 (cpyS 0 x0_3 1), .int .u8 (cpyS 0 x0_3 2)], 3, false⟩])) (by kernel_rfl) ?_
          refine ok_keep [5, 20] (env' := [(5, .ptr 0 3 0), (20, .bool ((decide (cpyS 0 x0_3 0 = 61)) && ((decide (cpyS 0 x0_3 1 = 47)) && ((decide (cpyS 0 x0_3 2 = 61)) && true))))]) (by kernel_rfl) ?_
          exact hj2 ((decide (cpyS 0 x0_3 0 = 61)) && ((decide (cpyS 0 x0_3 1 = 47)) && ((decide (cpyS 0 x0_3 2 = 61)) && true)))
  · refine ok_split 8 (b := decide (a1 < 0)) (by kernel_rfl) (fun hb => ?_) (fun hb => ?_)
    · let E27 : Env := ((13, .bool true) :: (12, .tuple []) :: (11, .tuple []) :: (10, .tuple []) :: (9, .tuple []) :: (8, .bool true) :: E1)
      refine ok_run 6 (p' := g41p3) (env' := E27) (H' := (mkH [⟨[.int .u8 0, .int .u8 0, .int .u8 0], 0, false⟩])) (by kernel_rfl) ?_
      refine ok_keep [0, 1, 5, 13] (env' := [(0, .str a0), (1, .int .i64 a1), (5, .ptr 0 3 0), (13, .bool true)]) (by kernel_rfl) ?_
      exact hj1 true
    · let E28 : Env := ((13, .bool (decide ((a0.length : Int) ≤ a1))) :: (12, .bool (decide ((a0.length : Int) ≤ a1))) :: (11, .int .i64 (a0.length : Int)) :: (10, .str a0) :: (9, .int .i64 a1) :: (8, .bool false) :: E1)
      refine ok_run 6 (p' := g41p3) (env' := E28) (H' := (mkH [⟨[.int .u8 0, .int .u8 0, .int .u8 0], 0, false⟩])) (by kernel_rfl) ?_
      refine ok_keep [0, 1, 5, 13] (env' := [(0, .str a0), (1, .int .i64 a1), (5, .ptr 0 3 0), (13, .bool (decide ((a0.length : Int) ≤ a1)))]) (by kernel_rfl) ?_
      exact hj1 (decide ((a0.length : Int) ≤ a1))
end Go.Proofs.Ytokcjgjgojlhbaa.Am
