/- LawScanAsks, part 6: whatever the input, the law comes out true: our texts, joined by a tool, without what the claim does not name. -/
import Derived.Test.YtokcjgjgojlhbaaPkScanAsks5
import Derived.Below
import Derived.Test.YtokcjgjgojlhbaaRows
import Derived.WalkKit
import Derived.ProofKit
import Derived.OpenShut
import Derived.ShutString
import Derived.ChangeOld
import Derived.SizedLaws
set_option maxRecDepth 100000
set_option linter.unusedVariables false
namespace Go.Proofs.Ytokcjgjgojlhbaa.Am
noncomputable section
open Go
theorem g13_l1_ok (k : Nat)  (a0 : (List S28)) (a1 : (List S28))  : ∀ (n : Nat) (y1_0 : Int), Ok X13 g13p6 [(0, .vec (a0).length 3 ((a0).flatMap e29)), (1, .vec (a1).length 3 ((a1).flatMap e29)), (5, .int .i64 y1_0)] (mkH []) (g13_l1 k a0 a1 n y1_0)
 | 0, _ => ok_none
 | n + 1, y1_0 => by
  have ih := g13_l1_ok k a0 a1 n
  rw [g13_l1_s]
  refine ok_ent (p' := nav [0] g13p6) (by kernel_rfl) ?_
  let E2 : Env := [(14, .bool (decide (y1_0 < (a0.length : Int)))), (13, .int .i64 (a0.length : Int)), (12, .vec (a0).length 3 ((a0).flatMap e29)), (11, .int .i64 y1_0), (0, .vec (a0).length 3 ((a0).flatMap e29)), (1, .vec (a1).length 3 ((a1).flatMap e29)), (5, .int .i64 y1_0)]
  refine ok_run 8 (p' := g13p8) (env' := E2) (H' := (mkH [])) (by kernel_rfl) ?_
  refine ok_split 14 (b := decide (y1_0 < (a0.length : Int))) (by kernel_rfl) (fun hb => ?_) (fun hb => ?_)
  ·refine ok_run 5 (p' := g13p9) (env' := ((14, .bool true) :: E2)) (H' := (mkH [])) (by kernel_rfl) ?_
   refine ok_bind (fun x0_2 hx0_2 => ?_)
   refine ok_bind (fun x0_6 hx0_6 => ?_)
   let E3 : Env := [(18, .int .i64 y1_0), (17, .vec (a0).length 3 ((a0).flatMap e29)), (14, .bool true), (14, .bool (decide (y1_0 < (a0.length : Int)))), (13, .int .i64 (a0.length : Int)), (12, .vec (a0).length 3 ((a0).flatMap e29)), (11, .int .i64 y1_0), (0, .vec (a0).length 3 ((a0).flatMap e29)), (1, .vec (a1).length 3 ((a1).flatMap e29)), (5, .int .i64 y1_0)]
   let E4 : Env := ((23, .vptr [.int .i64 x0_6.f0, .str x0_6.f1, .int .i64 x0_6.f2]) :: (22, .int .i64 y1_0) :: (21, .vec (a1).length 3 ((a1).flatMap e29)) :: (20, .agg [.int .i64 x0_2.f0, .str x0_2.f1, .int .i64 x0_2.f2]) :: (19, .vptr [.int .i64 x0_2.f0, .str x0_2.f1, .int .i64 x0_2.f2]) :: E3)
   refine ok_draw (p' := nav [0] g13p9) (env' := ((25, .bool (!((decide (x0_2.f0 = x0_6.f0)) && ((eqL x0_2.f1 x0_6.f1) && ((decide (x0_2.f2 = x0_6.f2)) && true))))) :: (24, .agg [.int .i64 x0_6.f0, .str x0_6.f1, .int .i64 x0_6.f2]) :: E4)) (H' := (mkH [])) (hs := []) [(0, 0, 0), (0, 0, 0), (3, 0, 0), (7, 0, 0), (0, 0, 0), (0, 0, 0), (48, 0, 0), (112, 0, 0), (255, 0, 0)] (by kernel_rfl) (by kernel_rfl) (by kernel_rfl) (opsD_run 2 (l' := (opsAt g13p9).toList.drop 2) (env' := E3) (H' := (mkH [])) (hs := []) (by kernel_rfl) (opsD_chk (l' := (opsAt g13p9).toList.drop 3) (env' := ((19, .vptr [.int .i64 x0_2.f0, .str x0_2.f1, .int .i64 x0_2.f2]) :: E3)) (hs := []) (x := x0_2) (fun (x0_2 : S28) => (.vptr [.int .i64 x0_2.f0, .str x0_2.f1, .int .i64 x0_2.f2], (mkH []))) (vidxH (sz := 3) e29_len (by kernel_rfl)) hx0_2 (by kernel_rfl) (opsD_run 3 (l' := (opsAt g13p9).toList.drop 6) (env' := ((22, .int .i64 y1_0) :: (21, .vec (a1).length 3 ((a1).flatMap e29)) :: (20, .agg [.int .i64 x0_2.f0, .str x0_2.f1, .int .i64 x0_2.f2]) :: (19, .vptr [.int .i64 x0_2.f0, .str x0_2.f1, .int .i64 x0_2.f2]) :: E3)) (H' := (mkH [])) (hs := []) (by kernel_rfl) (opsD_chk (l' := (opsAt g13p9).toList.drop 7) (env' := E4) (hs := []) (x := x0_6) (fun (x0_6 : S28) => (.vptr [.int .i64 x0_6.f0, .str x0_6.f1, .int .i64 x0_6.f2], (mkH []))) (vidxH (sz := 3) e29_len (by kernel_rfl)) hx0_6 (by kernel_rfl) (opsD_run 2 (l' := (opsAt g13p9).toList.drop 9) (env' := ((25, .bool (!((decide (x0_2.f0 = x0_6.f0)) && ((eqL x0_2.f1 x0_6.f1) && ((decide (x0_2.f2 = x0_6.f2)) && true))))) :: (24, .agg [.int .i64 x0_6.f0, .str x0_6.f1, .int .i64 x0_6.f2]) :: E4)) (H' := (mkH [])) (hs := []) (by kernel_rfl) (.nil)))))) (by kernel_rfl) (by kernel_rfl) (by kernel_rfl) ?_
   refine ok_split 25 (b := !((decide (x0_2.f0 = x0_6.f0)) && ((eqL x0_2.f1 x0_6.f1) && ((decide (x0_2.f2 = x0_6.f2)) && true)))) (by kernel_rfl) (fun hb => ?_) (fun hb => ?_)
   ·refine ok_run 6 (p' := .fin) (env' := ((4, .bool false) :: (25, .bool true) :: (25, .bool (!((decide (x0_2.f0 = x0_6.f0)) && ((eqL x0_2.f1 x0_6.f1) && ((decide (x0_2.f2 = x0_6.f2)) && true))))) :: (24, .agg [.int .i64 x0_6.f0, .str x0_6.f1, .int .i64 x0_6.f2]) :: E4)) (H' := (mkH [])) (by kernel_rfl) ?_
    exact ok_ret (r := false) (xs := [.bool false]) (v := .bool false) (by kernel_rfl) (by kernel_rfl) (by kernel_rfl) (.pures (by kernel_rfl)) (by kernel_rfl)
   ·let E5 : Env := ((5, .int .i64 (fwrap .i64 (y1_0 + 1))) :: (16, .int .i64 (fwrap .i64 (y1_0 + 1))) :: (15, .int .i64 y1_0) :: (25, .bool false) :: (25, .bool (!((decide (x0_2.f0 = x0_6.f0)) && ((eqL x0_2.f1 x0_6.f1) && ((decide (x0_2.f2 = x0_6.f2)) && true))))) :: (24, .agg [.int .i64 x0_6.f0, .str x0_6.f1, .int .i64 x0_6.f2]) :: E4)
    refine ok_run 7 (p' := g13p6) (env' := E5) (H' := (mkH [])) (by kernel_rfl) ?_
    refine ok_keep [0, 1, 5] (env' := [(0, .vec (a0).length 3 ((a0).flatMap e29)), (1, .vec (a1).length 3 ((a1).flatMap e29)), (5, .int .i64 (fwrap .i64 (y1_0 + 1)))]) (by kernel_rfl) ?_
    exact ih (fwrap .i64 (y1_0 + 1))
  ·refine ok_run 7 (p' := .fin) (env' := ((4, .bool true) :: (14, .bool false) :: E2)) (H' := (mkH [])) (by kernel_rfl) ?_
   exact ok_ret (r := true) (xs := [.bool true]) (v := .bool true) (by kernel_rfl) (by kernel_rfl) (by kernel_rfl) (.pures (by kernel_rfl)) (by kernel_rfl)
def g13 (k : Nat) (a0 : (List S28)) (a1 : (List S28)) : Option Bool :=
 if (!decide ((a0.length : Int) = (a1.length : Int))) then (some false) else (g13_l1 k a0 a1 k 0)
theorem g13_ok (k : Nat) (a0 : (List S28)) (a1 : (List S28)) (r : Bool) (h : g13 k a0 a1 = some r) : PureOk Try.prog 13 [.vec (a0).length 3 ((a0).flatMap e29), .vec (a1).length 3 ((a1).flatMap e29)] (.bool r) := by
 refine pure_of X13 (fun _ => rfl) Try.func13 (by decide +kernel) (by kernel_rfl) (t := g13 k a0 a1) ?_ h
 unfold g13
 refine ok_env (env' := [(0, .vec (a0).length 3 ((a0).flatMap e29)), (1, .vec (a1).length 3 ((a1).flatMap e29))]) (by kernel_rfl) ?_
 let E1 : Env := [(10, .bool (!decide ((a0.length : Int) = (a1.length : Int)))), (9, .int .i64 (a1.length : Int)), (8, .vec (a1).length 3 ((a1).flatMap e29)), (7, .int .i64 (a0.length : Int)), (6, .vec (a0).length 3 ((a0).flatMap e29)), (4, .bool false), (0, .vec (a0).length 3 ((a0).flatMap e29)), (1, .vec (a1).length 3 ((a1).flatMap e29))]
 refine ok_run 13 (p' := g13p2) (env' := E1) (H' := (mkH [])) (by kernel_rfl) ?_
 refine ok_split 10 (b := !decide ((a0.length : Int) = (a1.length : Int))) (by kernel_rfl) (fun hb => ?_) (fun hb => ?_)
 ·refine ok_run 6 (p' := .fin) (env' := ((4, .bool false) :: (10, .bool true) :: E1)) (H' := (mkH [])) (by kernel_rfl) ?_
  exact ok_ret (r := false) (xs := [.bool false]) (v := .bool false) (by kernel_rfl) (by kernel_rfl) (by kernel_rfl) (.pures (by kernel_rfl)) (by kernel_rfl)
 ·refine ok_run 9 (p' := g13p6) (env' := ((5, .int .i64 0) :: (10, .bool false) :: E1)) (H' := (mkH [])) (by kernel_rfl) ?_
  refine ok_keep [0, 1, 5] (env' := [(0, .vec (a0).length 3 ((a0).flatMap e29)), (1, .vec (a1).length 3 ((a1).flatMap e29)), (5, .int .i64 0)]) (by kernel_rfl) ?_
  exact (g13_l1_ok k a0 a1 k) 0
end
end Go.Proofs.Ytokcjgjgojlhbaa.Am
set_option maxRecDepth 100000
set_option linter.unusedVariables false
set_option linter.unusedSimpArgs false
namespace Go.Proofs.Ytokcjgjgojlhbaa.Am
open Go
theorem eqL_self (l : List Nat) : eqL l l = true := (eqL_iff l l).2 rfl
theorem sTold_at (k : Nat) : g10 (k + 60) = some true := by kernel_rfl
theorem tokens_l (k : Nat) {l : List S28} (hl : l.length ≤ 65536) : ∀ (f i : Nat), l.length < i + f → i ≤ l.length → g13_l1 k l l f (i : Int) = some true
 | 0, i, h, h2 => by omega
 | f + 1, i, h, h2 => by
  rw [g13_l1_s]
  rcases Nat.lt_or_ge i l.length with hi | hi
  ·obtain ⟨x, r, hx, -, -, -⟩ := dconsL hi
   have ih := tokens_l k hl f (i + 1) (by omega) (by omega)
   refine iT (dT (by omega)) ?_
   refine bS (by (try simp (disch := omega) only [fwI]); exact nthL_at hx) ?_
   refine bS (by (try simp (disch := omega) only [fwI]); exact nthL_at hx) ?_
   rw [eqL_self, dT (p := x.f0 = x.f0) rfl, dT (p := x.f2 = x.f2) rfl, fw_s (by omega)]
   exact ih
  ·exact iF (dF (by omega)) rfl
theorem tokens_at {k : Nat} {l : List S28} (hl : l.length ≤ 65536) (hk : l.length < k) : g13 k l l = some true := by
 unfold g13
 rw [dT rfl]
 exact tokens_l k hl k 0 (by omega) (by omega)
theorem scanN_len (s : List Nat) : (scanN s).1.length ≤ s.length ∧ (scanN s).1.length ≤ 65536 := by
 unfold scanN
 split
 ·exact ⟨Nat.zero_le _, Nat.zero_le _⟩
 ·split
  ·exact ⟨Nat.zero_le _, Nat.zero_le _⟩
  ·split
   ·rename_i l hl
    have := toks_len s _ 0 l hl (Nat.zero_le _)
    simp only [List.length_map]
    omega
   ·exact ⟨Nat.zero_le _, Nat.zero_le _⟩
end Go.Proofs.Ytokcjgjgojlhbaa.Am
set_option maxRecDepth 100000
set_option linter.unusedVariables false
namespace Go.Proofs.Ytokcjgjgojlhbaa.Am
noncomputable section
open Go
def X3 : Fx Bool := ⟨Try.prog, cx, Try.f3, fun r => .bool r, 0, fun _ => H0, cxTi, cxOrd⟩
def g3p0 : Pt := nav [0] (bodyAt Try.f3)
def g3p1 : Pt := nav [0, 0, 0, 0] g3p0
def g3p2 : Pt := nav [0, 0] g3p1
def g3p3 : Pt := nav [1, 0] g3p2
def g3p4 : Pt := nav [2, 0, 0] g3p2
def g3p6 : Pt := nav [0, 0, 0] g3p4
def g3p7 : Pt := nav [0, 0, 0, 0] g3p6
def g3p8 : Pt := nav [0, 0] g3p7
def g3p10 : Pt := nav [2, 0, 0] g3p8
def g3p11 : Pt := nav [0, 0, 0, 0] g3p10
def g3p12 : Pt := nav [0, 0] g3p11
def g3p13 : Pt := nav [1] g3p12
def g3p14 : Pt := nav [2, 0, 0, 0] g3p12
def g3p15 : Pt := nav [0, 0] g3p14
def g3p16 : Pt := nav [1, 0] g3p15
def g3p17 : Pt := nav [2, 0, 0] g3p15
def g3p18 : Pt := nav [0, 0, 0] g3p16
def g3p19 : Pt := nav [0, 0, 0] g3p17
def g3p20 : Pt := nav [0, 0, 0] g3p18
def g3p21 : Pt := nav [0, 0] g3p20
def g3 (k : Nat) (a0 : (List Nat)) (a1 : Int) : Option Bool :=
 if (decide (1500 < (a0.length : Int))) then ((g10 k).bind fun x0_0 => some x0_0) else ((g11 k a0).bind fun x1_1 => (g12 k a0).bind fun x2_1 => jn (fun (z10 : Bool) => if z10 then (some false) else (jn (fun (z11 : Bool) => jn (fun (z12 : Int) => jn (fun (z14 : Unit) => (g14 k a0 a1).bind fun x8_2 => (g10 k).bind fun x9_0 => if x9_0 then (if (decide (0 ≤ a1)) then (if (decide (a1 < (a0.length : Int))) then (some true) else (some (decide (x8_2.2 = 4)))) else (some (decide (x8_2.2 = 4)))) else (some false)) (fun j14 => if (decide (0 < (a0.length : Int))) then ((g14 k a0 z12).bind fun x5_2 => (g15 k a0 z12).bind fun x6_2 => jn (fun (z13 : Bool) => if z13 then (some false) else (j14 ())) (fun j13 => if (!((decide (x5_2.1.f0 = x6_2.1.f0)) && ((eqL x5_2.1.f1 x6_2.1.f1) && ((decide (x5_2.1.f2 = x6_2.1.f2)) && true)))) then (j13 true) else (if (!decide (x5_2.2 = x6_2.2)) then (j13 true) else ((g16 k a0 z12).bind fun x7_11 => (g17 k a0 z12).bind fun x7_14 => j13 (!decide (x7_11 = x7_14)))))) else (j14 ()))) (fun j12 => if z11 then ((remS (fwrap .u64 a1) (fwrap .u64 (a0.length : Int))).bind fun x4_5 => j12 (fwrap .i64 x4_5)) else (j12 a1))) (fun j11 => if (decide (0 < (a0.length : Int))) then (if (decide (a1 < 0)) then (j11 true) else (j11 (decide ((a0.length : Int) < a1)))) else (j11 false)))) (fun j10 => if (!decide (x1_1.2 = x2_1.2)) then (j10 true) else ((g13 k x1_1.1 x2_1.1).bind fun x3_6 => j10 (!x3_6))))
theorem g3_ok (k : Nat) (a0 : (List Nat)) (a1 : Int) (r : Bool) (h : g3 k a0 a1 = some r) : PureOk Try.prog 3 [.str a0, .int .i64 a1] (.bool r) := by
 refine pure_of X3 (fun _ => rfl) Try.func3 (by decide +kernel) (by kernel_rfl) (t := g3 k a0 a1) ?_ h
 unfold g3
 refine ok_env (env' := [(0, .str a0), (1, .int .i64 a1)]) (by kernel_rfl) ?_
 let E1 : Env := [(18, .bool (decide (1500 < (a0.length : Int)))), (17, .int .i64 (a0.length : Int)), (16, .str a0), (4, .bool false), (0, .str a0), (1, .int .i64 a1)]
 refine ok_run 11 (p' := g3p2) (env' := E1) (H' := (mkH [])) (by kernel_rfl) ?_
 refine ok_split 18 (b := decide (1500 < (a0.length : Int))) (by kernel_rfl) (fun hb => ?_) (fun hb => ?_)
 ·refine ok_run 3 (p' := (atN 0 (ctl1 g3p3))) (env' := ((18, .bool true) :: E1)) (H' := (mkH [])) (by kernel_rfl) ?_
  refine ok_call (fun (x0_0 : Bool) => .bool x0_0) (atN 1 (ctl1 g3p3)) (fun x0_0 => ((19, .bool x0_0) :: (18, .bool true) :: E1)) (fi := 10) (args := []) (by kernel_rfl) (by kernel_rfl) (fun _ => by kernel_rfl) (fun r h => g10_ok k  r h) (fun _ => by kernel_rfl) (fun x0_0 hx0_0 => ?_)
  refine ok_run 3 (p' := .fin) (env' := ((4, .bool x0_0) :: (19, .bool x0_0) :: (18, .bool true) :: E1)) (H' := (mkH [])) (by kernel_rfl) ?_
  exact ok_ret (r := x0_0) (xs := [.bool x0_0]) (v := .bool x0_0) (by kernel_rfl) (by kernel_rfl) (by kernel_rfl) (.pures (by kernel_rfl)) (by kernel_rfl)
 ·refine ok_run 5 (p' := (atN 1 (ctl1 g3p4))) (env' := ((21, .str a0) :: (18, .bool false) :: E1)) (H' := (mkH [])) (by kernel_rfl) ?_
  refine ok_call (fun (x1_1 : ((List S28) × Int)) => .tuple [.vec (x1_1.1).length 3 ((x1_1.1).flatMap e29), .int .i64 x1_1.2]) (atN 2 (ctl1 g3p4)) (fun x1_1 => ((22, .tuple [.vec (x1_1.1).length 3 ((x1_1.1).flatMap e29), .int .i64 x1_1.2]) :: (21, .str a0) :: (18, .bool false) :: E1)) (fi := 11) (args := [.str a0]) (by kernel_rfl) (by kernel_rfl) (fun _ => by kernel_rfl) (fun r h => g11_ok k a0 r h) (fun _ => by kernel_rfl) (fun x1_1 hx1_1 => ?_)
  let E2 : Env := ((6, .int .i64 x1_1.2) :: (5, .vec (x1_1.1).length 3 ((x1_1.1).flatMap e29)) :: (24, .int .i64 x1_1.2) :: (23, .vec (x1_1.1).length 3 ((x1_1.1).flatMap e29)) :: (20, .tuple [.vec (x1_1.1).length 3 ((x1_1.1).flatMap e29), .int .i64 x1_1.2]) :: (22, .tuple [.vec (x1_1.1).length 3 ((x1_1.1).flatMap e29), .int .i64 x1_1.2]) :: (21, .str a0) :: (18, .bool false) :: E1)
  refine ok_run 7 (p' := g3p6) (env' := E2) (H' := (mkH [])) (by kernel_rfl) ?_
  refine ok_keep [0, 1, 5, 6] (env' := [(0, .str a0), (1, .int .i64 a1), (5, .vec (x1_1.1).length 3 ((x1_1.1).flatMap e29)), (6, .int .i64 x1_1.2)]) (by kernel_rfl) ?_
  let E3 : Env := [(26, .str a0), (0, .str a0), (1, .int .i64 a1), (5, .vec (x1_1.1).length 3 ((x1_1.1).flatMap e29)), (6, .int .i64 x1_1.2)]
  refine ok_run 2 (p' := (atN 1 (ctl1 g3p6))) (env' := E3) (H' := (mkH [])) (by kernel_rfl) ?_
  refine ok_call (fun (x2_1 : ((List S28) × Int)) => .tuple [.vec (x2_1.1).length 3 ((x2_1.1).flatMap e29), .int .i64 x2_1.2]) (atN 2 (ctl1 g3p6)) (fun x2_1 => ((27, .tuple [.vec (x2_1.1).length 3 ((x2_1.1).flatMap e29), .int .i64 x2_1.2]) :: E3)) (fi := 12) (args := [.str a0]) (by kernel_rfl) (by kernel_rfl) (fun _ => by kernel_rfl) (fun r h => g12_ok k a0 r h) (fun _ => by kernel_rfl) (fun x2_1 hx2_1 => ?_)
  let E4 : Env := ((33, .bool (!decide (x1_1.2 = x2_1.2))) :: (32, .bool (!decide (x1_1.2 = x2_1.2))) :: (31, .int .i64 x2_1.2) :: (30, .int .i64 x1_1.2) :: (8, .int .i64 x2_1.2) :: (7, .vec (x2_1.1).length 3 ((x2_1.1).flatMap e29)) :: (29, .int .i64 x2_1.2) :: (28, .vec (x2_1.1).length 3 ((x2_1.1).flatMap e29)) :: (25, .tuple [.vec (x2_1.1).length 3 ((x2_1.1).flatMap e29), .int .i64 x2_1.2]) :: (27, .tuple [.vec (x2_1.1).length 3 ((x2_1.1).flatMap e29), .int .i64 x2_1.2]) :: E3)
  refine ok_run 13 (p' := (atN 4 (ctl1 g3p7))) (env' := E4) (H' := (mkH [])) (by kernel_rfl) ?_
  refine ok_jn (f := fun (z10 : Bool) => if z10 then (some false) else (jn (fun (z11 : Bool) => jn (fun (z12 : Int) => jn (fun (z14 : Unit) => (g14 k a0 a1).bind fun x8_2 => (g10 k).bind fun x9_0 => if x9_0 then (if (decide (0 ≤ a1)) then (if (decide (a1 < (a0.length : Int))) then (some true) else (some (decide (x8_2.2 = 4)))) else (some (decide (x8_2.2 = 4)))) else (some false)) (fun j14 => if (decide (0 < (a0.length : Int))) then ((g14 k a0 z12).bind fun x5_2 => (g15 k a0 z12).bind fun x6_2 => jn (fun (z13 : Bool) => if z13 then (some false) else (j14 ())) (fun j13 => if (!((decide (x5_2.1.f0 = x6_2.1.f0)) && ((eqL x5_2.1.f1 x6_2.1.f1) && ((decide (x5_2.1.f2 = x6_2.1.f2)) && true)))) then (j13 true) else (if (!decide (x5_2.2 = x6_2.2)) then (j13 true) else ((g16 k a0 z12).bind fun x7_11 => (g17 k a0 z12).bind fun x7_14 => j13 (!decide (x7_11 = x7_14)))))) else (j14 ()))) (fun j12 => if z11 then ((remS (fwrap .u64 a1) (fwrap .u64 (a0.length : Int))).bind fun x4_5 => j12 (fwrap .i64 x4_5)) else (j12 a1))) (fun j11 => if (decide (0 < (a0.length : Int))) then (if (decide (a1 < 0)) then (j11 true) else (j11 (decide ((a0.length : Int) < a1)))) else (j11 false)))) g3p8 (fun (z10 : Bool) => [(0, .str a0), (1, .int .i64 a1), (38, .bool z10)]) (fun (z10 : Bool) => (mkH [])) (fun z10 => ?_) (fun j10 hj10 => ?_)
  ·refine ok_split 38 (b := z10) (by kernel_rfl) (fun hb => ?_) (fun hb => ?_)
   ·let E5 : Env := [(4, .bool false), (38, .bool true), (0, .str a0), (1, .int .i64 a1), (38, .bool z10)]
    refine ok_run 6 (p' := .fin) (env' := E5) (H' := (mkH [])) (by kernel_rfl) ?_
    exact ok_ret (r := false) (xs := [.bool false]) (v := .bool false) (by kernel_rfl) (by kernel_rfl) (by kernel_rfl) (.pures (by kernel_rfl)) (by kernel_rfl)
   ·let E6 : Env := [(43, .bool (decide (0 < (a0.length : Int)))), (42, .bool (decide (0 < (a0.length : Int)))), (41, .int .i64 (a0.length : Int)), (40, .str a0), (9, .int .i64 a1), (39, .int .i64 a1), (38, .bool false), (0, .str a0), (1, .int .i64 a1), (38, .bool z10)]
    refine ok_run 14 (p' := (atN 4 (ctl1 g3p11))) (env' := E6) (H' := (mkH [])) (by kernel_rfl) ?_
    refine ok_jn (f := fun (z11 : Bool) => jn (fun (z12 : Int) => jn (fun (z14 : Unit) => (g14 k a0 a1).bind fun x8_2 => (g10 k).bind fun x9_0 => if x9_0 then (if (decide (0 ≤ a1)) then (if (decide (a1 < (a0.length : Int))) then (some true) else (some (decide (x8_2.2 = 4)))) else (some (decide (x8_2.2 = 4)))) else (some false)) (fun j14 => if (decide (0 < (a0.length : Int))) then ((g14 k a0 z12).bind fun x5_2 => (g15 k a0 z12).bind fun x6_2 => jn (fun (z13 : Bool) => if z13 then (some false) else (j14 ())) (fun j13 => if (!((decide (x5_2.1.f0 = x6_2.1.f0)) && ((eqL x5_2.1.f1 x6_2.1.f1) && ((decide (x5_2.1.f2 = x6_2.1.f2)) && true)))) then (j13 true) else (if (!decide (x5_2.2 = x6_2.2)) then (j13 true) else ((g16 k a0 z12).bind fun x7_11 => (g17 k a0 z12).bind fun x7_14 => j13 (!decide (x7_11 = x7_14)))))) else (j14 ()))) (fun j12 => if z11 then ((remS (fwrap .u64 a1) (fwrap .u64 (a0.length : Int))).bind fun x4_5 => j12 (fwrap .i64 x4_5)) else (j12 a1))) g3p12 (fun (z11 : Bool) => [(0, .str a0), (1, .int .i64 a1), (9, .int .i64 a1), (52, .bool z11)]) (fun (z11 : Bool) => (mkH [])) (fun z11 => ?_) (fun j11 hj11 => ?_)
    ·refine ok_jn (f := fun (z12 : Int) => jn (fun (z14 : Unit) => (g14 k a0 a1).bind fun x8_2 => (g10 k).bind fun x9_0 => if x9_0 then (if (decide (0 ≤ a1)) then (if (decide (a1 < (a0.length : Int))) then (some true) else (some (decide (x8_2.2 = 4)))) else (some (decide (x8_2.2 = 4)))) else (some false)) (fun j14 => if (decide (0 < (a0.length : Int))) then ((g14 k a0 z12).bind fun x5_2 => (g15 k a0 z12).bind fun x6_2 => jn (fun (z13 : Bool) => if z13 then (some false) else (j14 ())) (fun j13 => if (!((decide (x5_2.1.f0 = x6_2.1.f0)) && ((eqL x5_2.1.f1 x6_2.1.f1) && ((decide (x5_2.1.f2 = x6_2.1.f2)) && true)))) then (j13 true) else (if (!decide (x5_2.2 = x6_2.2)) then (j13 true) else ((g16 k a0 z12).bind fun x7_11 => (g17 k a0 z12).bind fun x7_14 => j13 (!decide (x7_11 = x7_14)))))) else (j14 ()))) g3p14 (fun (z12 : Int) => [(0, .str a0), (1, .int .i64 a1), (9, .int .i64 z12)]) (fun (z12 : Int) => (mkH [])) (fun z12 => ?_) (fun j12 hj12 => ?_)
     ·let E7 : Env := [(62, .bool (decide (0 < (a0.length : Int)))), (61, .int .i64 (a0.length : Int)), (60, .str a0), (0, .str a0), (1, .int .i64 a1), (9, .int .i64 z12)]
      refine ok_run 5 (p' := g3p15) (env' := E7) (H' := (mkH [])) (by kernel_rfl) ?_
      refine ok_jn (f := fun (z14 : Unit) => (g14 k a0 a1).bind fun x8_2 => (g10 k).bind fun x9_0 => if x9_0 then (if (decide (0 ≤ a1)) then (if (decide (a1 < (a0.length : Int))) then (some true) else (some (decide (x8_2.2 = 4)))) else (some (decide (x8_2.2 = 4)))) else (some false)) g3p17 (fun (z14 : Unit) => [(0, .str a0), (1, .int .i64 a1)]) (fun (z14 : Unit) => (mkH [])) (fun z14 => ?_) (fun j14 hj14 => ?_)
      ·refine ok_run 3 (p' := (atN 2 (ctl1 g3p17))) (env' := [(94, .int .i64 a1), (93, .str a0), (0, .str a0), (1, .int .i64 a1)]) (H' := (mkH [])) (by kernel_rfl) ?_
       refine ok_call (fun (x8_2 : (S28 × Int)) => .tuple [.agg [.int .i64 x8_2.1.f0, .str x8_2.1.f1, .int .i64 x8_2.1.f2], .int .i64 x8_2.2]) (atN 3 (ctl1 g3p17)) (fun x8_2 => [(95, .tuple [.agg [.int .i64 x8_2.1.f0, .str x8_2.1.f1, .int .i64 x8_2.1.f2], .int .i64 x8_2.2]), (94, .int .i64 a1), (93, .str a0), (0, .str a0), (1, .int .i64 a1)]) (fi := 14) (args := [.str a0, .int .i64 a1]) (by kernel_rfl) (by kernel_rfl) (fun _ => by kernel_rfl) (fun r h => g14_ok k a0 a1 r h) (fun _ => by kernel_rfl) (fun x8_2 hx8_2 => ?_)
       let E8 : Env := [(15, .int .i64 x8_2.2), (14, .ptr 0 3 0), (97, .int .i64 x8_2.2), (96, .agg [.int .i64 x8_2.1.f0, .str x8_2.1.f1, .int .i64 x8_2.1.f2]), (92, .tuple [.agg [.int .i64 x8_2.1.f0, .str x8_2.1.f1, .int .i64 x8_2.1.f2], .int .i64 x8_2.2]), (95, .tuple [.agg [.int .i64 x8_2.1.f0, .str x8_2.1.f1, .int .i64 x8_2.1.f2], .int .i64 x8_2.2]), (94, .int .i64 a1), (93, .str a0), (0, .str a0), (1, .int .i64 a1)]
       refine ok_run 8 (p' := g3p19) (env' := E8) (H' := (mkH [⟨[.int .i64 x8_2.1.f0, .str x8_2.1.f1, .int .i64 x8_2.1.f2], 3, false⟩])) (by kernel_rfl) ?_
       refine ok_keep [0, 1, 15] (env' := [(0, .str a0), (1, .int .i64 a1), (15, .int .i64 x8_2.2)]) (by kernel_rfl) ?_
       refine ok_run 1 (p' := (atN 0 (ctl1 g3p19))) (env' := [(0, .str a0), (1, .int .i64 a1), (15, .int .i64 x8_2.2)]) (H' := (mkH [⟨[.int .i64 x8_2.1.f0, .str x8_2.1.f1, .int .i64 x8_2.1.f2], 3, false⟩])) (by kernel_rfl) ?_
       refine ok_call (fun (x9_0 : Bool) => .bool x9_0) (atN 1 (ctl1 g3p19)) (fun x9_0 => [(98, .bool x9_0), (0, .str a0), (1, .int .i64 a1), (15, .int .i64 x8_2.2)]) (fi := 10) (args := []) (by kernel_rfl) (by kernel_rfl) (fun _ => by kernel_rfl) (fun r h => g10_ok k  r h) (fun _ => by kernel_rfl) (fun x9_0 hx9_0 => ?_)
       let E9 : Env := [(99, .bool x9_0), (98, .bool x9_0), (0, .str a0), (1, .int .i64 a1), (15, .int .i64 x8_2.2)]
       refine ok_run 1 (p' := (atN 2 (ctl1 g3p19))) (env' := E9) (H' := (mkH [⟨[.int .i64 x8_2.1.f0, .str x8_2.1.f1, .int .i64 x8_2.1.f2], 3, false⟩])) (by kernel_rfl) ?_
       refine ok_split 99 (b := x9_0) (by kernel_rfl) (fun hb => ?_) (fun hb => ?_)
       ·refine ok_run 3 (p' := (atN 5 (ctl1 g3p19))) (env' := ((102, .bool (decide (0 ≤ a1))) :: (101, .bool (decide (0 ≤ a1))) :: (100, .int .i64 a1) :: (99, .bool true) :: E9)) (H' := (mkH [⟨[.int .i64 x8_2.1.f0, .str x8_2.1.f1, .int .i64 x8_2.1.f2], 3, false⟩])) (by kernel_rfl) ?_
        refine ok_split 102 (b := decide (0 ≤ a1)) (by kernel_rfl) (fun hb => ?_) (fun hb => ?_)
        ·let E10 : Env := ((108, .bool (decide (a1 < (a0.length : Int)))) :: (107, .bool (decide (a1 < (a0.length : Int)))) :: (106, .bool (decide (a1 < (a0.length : Int)))) :: (105, .int .i64 (a0.length : Int)) :: (104, .str a0) :: (103, .int .i64 a1) :: (102, .bool true) :: (102, .bool (decide (0 ≤ a1))) :: (101, .bool (decide (0 ≤ a1))) :: (100, .int .i64 a1) :: (99, .bool true) :: E9)
         refine ok_run 6 (p' := (atN 11 (ctl1 g3p19))) (env' := E10) (H' := (mkH [⟨[.int .i64 x8_2.1.f0, .str x8_2.1.f1, .int .i64 x8_2.1.f2], 3, false⟩])) (by kernel_rfl) ?_
         refine ok_split 108 (b := decide (a1 < (a0.length : Int))) (by kernel_rfl) (fun hb => ?_) (fun hb => ?_)
         ·let E11 : Env := ((4, .bool true) :: (112, .bool true) :: (111, .bool true) :: (110, .tuple []) :: (109, .tuple []) :: (108, .bool true) :: E10)
          refine ok_run 7 (p' := .fin) (env' := E11) (H' := (mkH [⟨[.int .i64 x8_2.1.f0, .str x8_2.1.f1, .int .i64 x8_2.1.f2], 3, false⟩])) (by kernel_rfl) ?_
          exact ok_ret (r := true) (xs := [.bool true]) (v := .bool true) (by kernel_rfl) (by kernel_rfl) (by kernel_rfl) (.pures (by kernel_rfl)) (by kernel_rfl)
         ·let E12 : Env := ((4, .bool (decide (x8_2.2 = 4))) :: (112, .bool (decide (x8_2.2 = 4))) :: (111, .bool (decide (x8_2.2 = 4))) :: (110, .bool (decide (x8_2.2 = 4))) :: (109, .int .i64 x8_2.2) :: (108, .bool false) :: E10)
          refine ok_run 7 (p' := .fin) (env' := E12) (H' := (mkH [⟨[.int .i64 x8_2.1.f0, .str x8_2.1.f1, .int .i64 x8_2.1.f2], 3, false⟩])) (by kernel_rfl) ?_
          exact ok_ret (r := (decide (x8_2.2 = 4))) (xs := [.bool (decide (x8_2.2 = 4))]) (v := .bool (decide (x8_2.2 = 4))) (by kernel_rfl) (by kernel_rfl) (by kernel_rfl) (.pures (by kernel_rfl)) (by kernel_rfl)
        ·let E13 : Env := ((4, .bool (decide (x8_2.2 = 4))) :: (112, .bool (decide (x8_2.2 = 4))) :: (111, .bool (decide (x8_2.2 = 4))) :: (110, .bool (decide (x8_2.2 = 4))) :: (109, .int .i64 x8_2.2) :: (108, .bool false) :: (107, .bool false) :: (106, .tuple []) :: (105, .tuple []) :: (104, .tuple []) :: (103, .tuple []) :: (102, .bool false) :: (102, .bool (decide (0 ≤ a1))) :: (101, .bool (decide (0 ≤ a1))) :: (100, .int .i64 a1) :: (99, .bool true) :: E9)
         refine ok_run 13 (p' := .fin) (env' := E13) (H' := (mkH [⟨[.int .i64 x8_2.1.f0, .str x8_2.1.f1, .int .i64 x8_2.1.f2], 3, false⟩])) (by kernel_rfl) ?_
         exact ok_ret (r := (decide (x8_2.2 = 4))) (xs := [.bool (decide (x8_2.2 = 4))]) (v := .bool (decide (x8_2.2 = 4))) (by kernel_rfl) (by kernel_rfl) (by kernel_rfl) (.pures (by kernel_rfl)) (by kernel_rfl)
       ·let E14 : Env := ((4, .bool false) :: (112, .bool false) :: (111, .tuple []) :: (110, .tuple []) :: (109, .tuple []) :: (108, .tuple []) :: (107, .tuple []) :: (106, .tuple []) :: (105, .tuple []) :: (104, .tuple []) :: (103, .tuple []) :: (102, .tuple []) :: (101, .tuple []) :: (100, .tuple []) :: (99, .bool false) :: E9)
        refine ok_run 16 (p' := .fin) (env' := E14) (H' := (mkH [⟨[.int .i64 x8_2.1.f0, .str x8_2.1.f1, .int .i64 x8_2.1.f2], 3, false⟩])) (by kernel_rfl) ?_
        exact ok_ret (r := false) (xs := [.bool false]) (v := .bool false) (by kernel_rfl) (by kernel_rfl) (by kernel_rfl) (.pures (by kernel_rfl)) (by kernel_rfl)
      ·refine ok_split 62 (b := decide (0 < (a0.length : Int))) (by kernel_rfl) (fun hb => ?_) (fun hb => ?_)
       ·refine ok_run 5 (p' := (atN 2 (ctl1 g3p16))) (env' := ((65, .int .i64 z12) :: (64, .str a0) :: (62, .bool true) :: E7)) (H' := (mkH [])) (by kernel_rfl) ?_
        refine ok_call (fun (x5_2 : (S28 × Int)) => .tuple [.agg [.int .i64 x5_2.1.f0, .str x5_2.1.f1, .int .i64 x5_2.1.f2], .int .i64 x5_2.2]) (atN 3 (ctl1 g3p16)) (fun x5_2 => ((66, .tuple [.agg [.int .i64 x5_2.1.f0, .str x5_2.1.f1, .int .i64 x5_2.1.f2], .int .i64 x5_2.2]) :: (65, .int .i64 z12) :: (64, .str a0) :: (62, .bool true) :: E7)) (fi := 14) (args := [.str a0, .int .i64 z12]) (by kernel_rfl) (by kernel_rfl) (fun _ => by kernel_rfl) (fun r h => g14_ok k a0 z12 r h) (fun _ => by kernel_rfl) (fun x5_2 hx5_2 => ?_)
        let E15 : Env := ((11, .int .i64 x5_2.2) :: (10, .ptr 0 3 0) :: (68, .int .i64 x5_2.2) :: (67, .agg [.int .i64 x5_2.1.f0, .str x5_2.1.f1, .int .i64 x5_2.1.f2]) :: (63, .tuple [.agg [.int .i64 x5_2.1.f0, .str x5_2.1.f1, .int .i64 x5_2.1.f2], .int .i64 x5_2.2]) :: (66, .tuple [.agg [.int .i64 x5_2.1.f0, .str x5_2.1.f1, .int .i64 x5_2.1.f2], .int .i64 x5_2.2]) :: (65, .int .i64 z12) :: (64, .str a0) :: (62, .bool true) :: E7)
        refine ok_run 8 (p' := g3p18) (env' := E15) (H' := (mkH [⟨[.int .i64 x5_2.1.f0, .str x5_2.1.f1, .int .i64 x5_2.1.f2], 3, false⟩])) (by kernel_rfl) ?_
        refine ok_keep [0, 1, 9, 10, 11] (env' := [(0, .str a0), (1, .int .i64 a1), (9, .int .i64 z12), (10, .ptr 0 3 0), (11, .int .i64 x5_2.2)]) (by kernel_rfl) ?_
        let E16 : Env := [(71, .int .i64 z12), (70, .str a0), (0, .str a0), (1, .int .i64 a1), (9, .int .i64 z12), (10, .ptr 0 3 0), (11, .int .i64 x5_2.2)]
        refine ok_run 3 (p' := (atN 2 (ctl1 g3p18))) (env' := E16) (H' := (mkH [⟨[.int .i64 x5_2.1.f0, .str x5_2.1.f1, .int .i64 x5_2.1.f2], 3, false⟩])) (by kernel_rfl) ?_
        refine ok_call (fun (x6_2 : (S28 × Int)) => .tuple [.agg [.int .i64 x6_2.1.f0, .str x6_2.1.f1, .int .i64 x6_2.1.f2], .int .i64 x6_2.2]) (atN 3 (ctl1 g3p18)) (fun x6_2 => ((72, .tuple [.agg [.int .i64 x6_2.1.f0, .str x6_2.1.f1, .int .i64 x6_2.1.f2], .int .i64 x6_2.2]) :: E16)) (fi := 15) (args := [.str a0, .int .i64 z12]) (by kernel_rfl) (by kernel_rfl) (fun _ => by kernel_rfl) (fun r h => g15_ok k a0 z12 r h) (fun _ => by kernel_rfl) (fun x6_2 hx6_2 => ?_)
        let E17 : Env := ((78, .bool (!((decide (x5_2.1.f0 = x6_2.1.f0)) && ((eqL x5_2.1.f1 x6_2.1.f1) && ((decide (x5_2.1.f2 = x6_2.1.f2)) && true))))) :: (77, .bool (!((decide (x5_2.1.f0 = x6_2.1.f0)) && ((eqL x5_2.1.f1 x6_2.1.f1) && ((decide (x5_2.1.f2 = x6_2.1.f2)) && true))))) :: (76, .agg [.int .i64 x6_2.1.f0, .str x6_2.1.f1, .int .i64 x6_2.1.f2]) :: (75, .agg [.int .i64 x5_2.1.f0, .str x5_2.1.f1, .int .i64 x5_2.1.f2]) :: (13, .int .i64 x6_2.2) :: (12, .ptr 1 3 0) :: (74, .int .i64 x6_2.2) :: (73, .agg [.int .i64 x6_2.1.f0, .str x6_2.1.f1, .int .i64 x6_2.1.f2]) :: (69, .tuple [.agg [.int .i64 x6_2.1.f0, .str x6_2.1.f1, .int .i64 x6_2.1.f2], .int .i64 x6_2.2]) :: (72, .tuple [.agg [.int .i64 x6_2.1.f0, .str x6_2.1.f1, .int .i64 x6_2.1.f2], .int .i64 x6_2.2]) :: E16)
        refine ok_run 13 (p' := (atN 4 (ctl1 g3p20))) (env' := E17) (H' := (mkH [⟨[.int .i64 x5_2.1.f0, .str x5_2.1.f1, .int .i64 x5_2.1.f2], 3, false⟩, ⟨[.int .i64 x6_2.1.f0, .str x6_2.1.f1, .int .i64 x6_2.1.f2], 3, false⟩])) (by kernel_rfl) ?_
        refine ok_jn (f := fun (z13 : Bool) => if z13 then (some false) else (j14 ())) g3p21 (fun (z13 : Bool) => [(0, .str a0), (1, .int .i64 a1), (91, .bool z13)]) (fun (z13 : Bool) => (mkH [])) (fun z13 => ?_) (fun j13 hj13 => ?_)
        ·refine ok_split 91 (b := z13) (by kernel_rfl) (fun hb => ?_) (fun hb => ?_)
         ·let E18 : Env := [(4, .bool false), (91, .bool true), (0, .str a0), (1, .int .i64 a1), (91, .bool z13)]
          refine ok_run 6 (p' := .fin) (env' := E18) (H' := (mkH [])) (by kernel_rfl) ?_
          exact ok_ret (r := false) (xs := [.bool false]) (v := .bool false) (by kernel_rfl) (by kernel_rfl) (by kernel_rfl) (.pures (by kernel_rfl)) (by kernel_rfl)
         ·refine ok_run 3 (p' := g3p17) (env' := [(91, .bool false), (0, .str a0), (1, .int .i64 a1), (91, .bool z13)]) (H' := (mkH [])) (by kernel_rfl) ?_
          refine ok_keep [0, 1] (env' := [(0, .str a0), (1, .int .i64 a1)]) (by kernel_rfl) ?_
          exact hj14 ()
        ·refine ok_split 78 (b := !((decide (x5_2.1.f0 = x6_2.1.f0)) && ((eqL x5_2.1.f1 x6_2.1.f1) && ((decide (x5_2.1.f2 = x6_2.1.f2)) && true)))) (by kernel_rfl) (fun hb => ?_) (fun hb => ?_)
         ·let E19 : Env := ((91, .bool true) :: (90, .tuple []) :: (89, .tuple []) :: (88, .tuple []) :: (87, .tuple []) :: (86, .tuple []) :: (85, .tuple []) :: (84, .tuple []) :: (83, .bool true) :: (82, .bool true) :: (81, .tuple []) :: (80, .tuple []) :: (79, .tuple []) :: (78, .bool true) :: E17)
          refine ok_run 14 (p' := g3p21) (env' := E19) (H' := (mkH [⟨[.int .i64 x5_2.1.f0, .str x5_2.1.f1, .int .i64 x5_2.1.f2], 3, false⟩, ⟨[.int .i64 x6_2.1.f0, .str x6_2.1.f1, .int .i64 x6_2.1.f2], 3, false⟩])) (by kernel_rfl) ?_
          refine ok_keep [0, 1, 91] (env' := [(0, .str a0), (1, .int .i64 a1), (91, .bool true)]) (by kernel_rfl) ?_
          refine ok_cut [] [⟨[.int .i64 x5_2.1.f0, .str x5_2.1.f1, .int .i64 x5_2.1.f2], 3, false⟩, ⟨[.int .i64 x6_2.1.f0, .str x6_2.1.f1, .int .i64 x6_2.1.f2], 3, false⟩] (by kernel_rfl) rfl (by kernel_rfl) trivial ?_
          exact hj13 true
         ·let E20 : Env := ((83, .bool (!decide (x5_2.2 = x6_2.2))) :: (82, .bool (!decide (x5_2.2 = x6_2.2))) :: (81, .bool (!decide (x5_2.2 = x6_2.2))) :: (80, .int .i64 x6_2.2) :: (79, .int .i64 x5_2.2) :: (78, .bool false) :: E17)
          refine ok_run 5 (p' := (atN 9 (ctl1 g3p20))) (env' := E20) (H' := (mkH [⟨[.int .i64 x5_2.1.f0, .str x5_2.1.f1, .int .i64 x5_2.1.f2], 3, false⟩, ⟨[.int .i64 x6_2.1.f0, .str x6_2.1.f1, .int .i64 x6_2.1.f2], 3, false⟩])) (by kernel_rfl) ?_
          refine ok_split 83 (b := !decide (x5_2.2 = x6_2.2)) (by kernel_rfl) (fun hb => ?_) (fun hb => ?_)
          ·let E21 : Env := ((91, .bool true) :: (90, .tuple []) :: (89, .tuple []) :: (88, .tuple []) :: (87, .tuple []) :: (86, .tuple []) :: (85, .tuple []) :: (84, .tuple []) :: (83, .bool true) :: E20)
           refine ok_run 9 (p' := g3p21) (env' := E21) (H' := (mkH [⟨[.int .i64 x5_2.1.f0, .str x5_2.1.f1, .int .i64 x5_2.1.f2], 3, false⟩, ⟨[.int .i64 x6_2.1.f0, .str x6_2.1.f1, .int .i64 x6_2.1.f2], 3, false⟩])) (by kernel_rfl) ?_
           refine ok_keep [0, 1, 91] (env' := [(0, .str a0), (1, .int .i64 a1), (91, .bool true)]) (by kernel_rfl) ?_
           refine ok_cut [] [⟨[.int .i64 x5_2.1.f0, .str x5_2.1.f1, .int .i64 x5_2.1.f2], 3, false⟩, ⟨[.int .i64 x6_2.1.f0, .str x6_2.1.f1, .int .i64 x6_2.1.f2], 3, false⟩] (by kernel_rfl) rfl (by kernel_rfl) trivial ?_
           exact hj13 true
          ·refine ok_run 2 (p' := (atN 11 (ctl1 g3p20))) (env' := ((85, .int .i64 z12) :: (84, .str a0) :: (83, .bool false) :: E20)) (H' := (mkH [⟨[.int .i64 x5_2.1.f0, .str x5_2.1.f1, .int .i64 x5_2.1.f2], 3, false⟩, ⟨[.int .i64 x6_2.1.f0, .str x6_2.1.f1, .int .i64 x6_2.1.f2], 3, false⟩])) (by kernel_rfl) ?_
           refine ok_call (fun (x7_11 : Int) => .int .i64 x7_11) (atN 12 (ctl1 g3p20)) (fun x7_11 => ((86, .int .i64 x7_11) :: (85, .int .i64 z12) :: (84, .str a0) :: (83, .bool false) :: E20)) (fi := 16) (args := [.str a0, .int .i64 z12]) (by kernel_rfl) (by kernel_rfl) (fun _ => by kernel_rfl) (fun r h => g16_ok k a0 z12 r h) (fun _ => by kernel_rfl) (fun x7_11 hx7_11 => ?_)
           let E22 : Env := ((88, .int .i64 z12) :: (87, .str a0) :: (86, .int .i64 x7_11) :: (85, .int .i64 z12) :: (84, .str a0) :: (83, .bool false) :: E20)
           refine ok_run 2 (p' := (atN 14 (ctl1 g3p20))) (env' := E22) (H' := (mkH [⟨[.int .i64 x5_2.1.f0, .str x5_2.1.f1, .int .i64 x5_2.1.f2], 3, false⟩, ⟨[.int .i64 x6_2.1.f0, .str x6_2.1.f1, .int .i64 x6_2.1.f2], 3, false⟩])) (by kernel_rfl) ?_
           refine ok_call (fun (x7_14 : Int) => .int .i64 x7_14) (atN 15 (ctl1 g3p20)) (fun x7_14 => ((89, .int .i64 x7_14) :: E22)) (fi := 17) (args := [.str a0, .int .i64 z12]) (by kernel_rfl) (by kernel_rfl) (fun _ => by kernel_rfl) (fun r h => g17_ok k a0 z12 r h) (fun _ => by kernel_rfl) (fun x7_14 hx7_14 => ?_)
           refine ok_run 3 (p' := g3p21) (env' := ((91, .bool (!decide (x7_11 = x7_14))) :: (90, .bool (!decide (x7_11 = x7_14))) :: (89, .int .i64 x7_14) :: E22)) (H' := (mkH [⟨[.int .i64 x5_2.1.f0, .str x5_2.1.f1, .int .i64 x5_2.1.f2], 3, false⟩, ⟨[.int .i64 x6_2.1.f0, .str x6_2.1.f1, .int .i64 x6_2.1.f2], 3, false⟩])) (by kernel_rfl) ?_
           refine ok_keep [0, 1, 91] (env' := [(0, .str a0), (1, .int .i64 a1), (91, .bool (!decide (x7_11 = x7_14)))]) (by kernel_rfl) ?_
           refine ok_cut [] [⟨[.int .i64 x5_2.1.f0, .str x5_2.1.f1, .int .i64 x5_2.1.f2], 3, false⟩, ⟨[.int .i64 x6_2.1.f0, .str x6_2.1.f1, .int .i64 x6_2.1.f2], 3, false⟩] (by kernel_rfl) rfl (by kernel_rfl) trivial ?_
           exact hj13 (!decide (x7_11 = x7_14))
       ·refine ok_run 3 (p' := g3p17) (env' := ((62, .bool false) :: E7)) (H' := (mkH [])) (by kernel_rfl) ?_
        refine ok_keep [0, 1] (env' := [(0, .str a0), (1, .int .i64 a1)]) (by kernel_rfl) ?_
        exact hj14 ()
     ·refine ok_split 52 (b := z11) (by kernel_rfl) (fun hb => ?_) (fun hb => ?_)
      ·let E23 : Env := [(57, .int .u64 (fwrap .u64 (a0.length : Int))), (56, .int .i64 (a0.length : Int)), (55, .str a0), (54, .int .u64 (fwrap .u64 a1)), (53, .int .i64 a1), (52, .bool true), (0, .str a0), (1, .int .i64 a1), (9, .int .i64 a1), (52, .bool z11)]
       refine ok_run 7 (p' := (atN 5 (ctl1 g3p13))) (env' := E23) (H' := (mkH [])) (by kernel_rfl) ?_
       refine ok_chk (fun (x4_5 : Int) => (.int .u64 x4_5, (mkH []))) (atN 6 (ctl1 g3p13)) (fun x4_5 => ((58, .int .u64 x4_5) :: E23)) (remH (by kernel_rfl)) (fun _ => by kernel_rfl) (fun x4_5 hx4_5 => ?_)
       refine ok_run 5 (p' := g3p14) (env' := ((9, .int .i64 (fwrap .i64 x4_5)) :: (59, .int .i64 (fwrap .i64 x4_5)) :: (58, .int .u64 x4_5) :: E23)) (H' := (mkH [])) (by kernel_rfl) ?_
       refine ok_keep [0, 1, 9] (env' := [(0, .str a0), (1, .int .i64 a1), (9, .int .i64 (fwrap .i64 x4_5))]) (by kernel_rfl) ?_
       exact hj12 (fwrap .i64 x4_5)
      ·let E24 : Env := [(52, .bool false), (0, .str a0), (1, .int .i64 a1), (9, .int .i64 a1), (52, .bool z11)]
       refine ok_run 4 (p' := g3p14) (env' := E24) (H' := (mkH [])) (by kernel_rfl) ?_
       refine ok_keep [0, 1, 9] (env' := [(0, .str a0), (1, .int .i64 a1), (9, .int .i64 a1)]) (by kernel_rfl) ?_
       exact hj12 a1
    ·refine ok_split 43 (b := decide (0 < (a0.length : Int))) (by kernel_rfl) (fun hb => ?_) (fun hb => ?_)
     ·refine ok_run 3 (p' := (atN 7 (ctl1 g3p11))) (env' := ((46, .bool (decide (a1 < 0))) :: (45, .bool (decide (a1 < 0))) :: (44, .int .i64 a1) :: (43, .bool true) :: E6)) (H' := (mkH [])) (by kernel_rfl) ?_
      refine ok_split 46 (b := decide (a1 < 0)) (by kernel_rfl) (fun hb => ?_) (fun hb => ?_)
      ·let E25 : Env := ((52, .bool true) :: (51, .bool true) :: (50, .tuple []) :: (49, .tuple []) :: (48, .tuple []) :: (47, .tuple []) :: (46, .bool true) :: (46, .bool (decide (a1 < 0))) :: (45, .bool (decide (a1 < 0))) :: (44, .int .i64 a1) :: (43, .bool true) :: E6)
       refine ok_run 7 (p' := g3p12) (env' := E25) (H' := (mkH [])) (by kernel_rfl) ?_
       refine ok_keep [0, 1, 9, 52] (env' := [(0, .str a0), (1, .int .i64 a1), (9, .int .i64 a1), (52, .bool true)]) (by kernel_rfl) ?_
       exact hj11 true
      ·let E26 : Env := ((52, .bool (decide ((a0.length : Int) < a1))) :: (51, .bool (decide ((a0.length : Int) < a1))) :: (50, .bool (decide ((a0.length : Int) < a1))) :: (49, .int .i64 (a0.length : Int)) :: (48, .str a0) :: (47, .int .i64 a1) :: (46, .bool false) :: (46, .bool (decide (a1 < 0))) :: (45, .bool (decide (a1 < 0))) :: (44, .int .i64 a1) :: (43, .bool true) :: E6)
       refine ok_run 7 (p' := g3p12) (env' := E26) (H' := (mkH [])) (by kernel_rfl) ?_
       refine ok_keep [0, 1, 9, 52] (env' := [(0, .str a0), (1, .int .i64 a1), (9, .int .i64 a1), (52, .bool (decide ((a0.length : Int) < a1)))]) (by kernel_rfl) ?_
       exact hj11 (decide ((a0.length : Int) < a1))
     ·let E27 : Env := ((52, .bool false) :: (51, .tuple []) :: (50, .tuple []) :: (49, .tuple []) :: (48, .tuple []) :: (47, .tuple []) :: (46, .tuple []) :: (45, .tuple []) :: (44, .tuple []) :: (43, .bool false) :: E6)
      refine ok_run 10 (p' := g3p12) (env' := E27) (H' := (mkH [])) (by kernel_rfl) ?_
      refine ok_keep [0, 1, 9, 52] (env' := [(0, .str a0), (1, .int .i64 a1), (9, .int .i64 a1), (52, .bool false)]) (by kernel_rfl) ?_
      exact hj11 false
  ·refine ok_split 33 (b := !decide (x1_1.2 = x2_1.2)) (by kernel_rfl) (fun hb => ?_) (fun hb => ?_)
   ·let E28 : Env := ((38, .bool true) :: (37, .tuple []) :: (36, .tuple []) :: (35, .tuple []) :: (34, .tuple []) :: (33, .bool true) :: E4)
    refine ok_run 6 (p' := g3p8) (env' := E28) (H' := (mkH [])) (by kernel_rfl) ?_
    refine ok_keep [0, 1, 38] (env' := [(0, .str a0), (1, .int .i64 a1), (38, .bool true)]) (by kernel_rfl) ?_
    exact hj10 true
   ·refine ok_run 2 (p' := (atN 6 (ctl1 g3p7))) (env' := ((35, .vec (x2_1.1).length 3 ((x2_1.1).flatMap e29)) :: (34, .vec (x1_1.1).length 3 ((x1_1.1).flatMap e29)) :: (33, .bool false) :: E4)) (H' := (mkH [])) (by kernel_rfl) ?_
    refine ok_call (fun (x3_6 : Bool) => .bool x3_6) (atN 7 (ctl1 g3p7)) (fun x3_6 => ((36, .bool x3_6) :: (35, .vec (x2_1.1).length 3 ((x2_1.1).flatMap e29)) :: (34, .vec (x1_1.1).length 3 ((x1_1.1).flatMap e29)) :: (33, .bool false) :: E4)) (fi := 13) (args := [.vec (x1_1.1).length 3 ((x1_1.1).flatMap e29), .vec (x2_1.1).length 3 ((x2_1.1).flatMap e29)]) (by kernel_rfl) (by kernel_rfl) (fun _ => by kernel_rfl) (fun r h => g13_ok k x1_1.1 x2_1.1 r h) (fun _ => by kernel_rfl) (fun x3_6 hx3_6 => ?_)
    let E29 : Env := ((38, .bool (!x3_6)) :: (37, .bool (!x3_6)) :: (36, .bool x3_6) :: (35, .vec (x2_1.1).length 3 ((x2_1.1).flatMap e29)) :: (34, .vec (x1_1.1).length 3 ((x1_1.1).flatMap e29)) :: (33, .bool false) :: E4)
    refine ok_run 3 (p' := g3p8) (env' := E29) (H' := (mkH [])) (by kernel_rfl) ?_
    refine ok_keep [0, 1, 38] (env' := [(0, .str a0), (1, .int .i64 a1), (38, .bool (!x3_6))]) (by kernel_rfl) ?_
    exact hj10 (!x3_6)
end
end Go.Proofs.Ytokcjgjgojlhbaa.Am
set_option maxRecDepth 100000
set_option linter.unusedVariables false
set_option linter.unusedSimpArgs false
namespace Go.Proofs.Ytokcjgjgojlhbaa.Am
open Go
theorem at_in (s : List Nat) (a1 : Int) (hpos : 0 < s.length) (hl : s.length ≤ 1500) : ∃ b : Nat, b ≤ s.length ∧ (∀ j : Int → Option Bool, (if (if decide (a1 < 0) then true else decide ((s.length : Int) < a1)) = true then (remS (fwrap .u64 a1) (fwrap .u64 (s.length : Int))).bind (fun x4_5 => j (fwrap .i64 x4_5)) else j a1) = j (b : Int)) := by
 by_cases h : a1 < 0 ∨ (s.length : Int) < a1
 ·obtain ⟨i, hi, h1, h2⟩ := rem_at a1 s.length hpos (by omega)
  refine ⟨i, by omega, fun j => ?_⟩
  rw [if_pos]
  ·rw [h1, Option.bind_some, fwI (by omega) (by omega)]
  ·by_cases h0 : a1 < 0
   ·rw [decide_eq_true h0]; rfl
   ·rw [decide_eq_false h0]; exact decide_eq_true (by omega)
 ·refine ⟨a1.toNat, by omega, fun j => ?_⟩
  rw [if_neg]
  ·rw [Int.toNat_of_nonneg (by omega)]
  ·rw [decide_eq_false (by omega)]; simp; omega
theorem scanAsks_true (s : List Nat) (a1 : Int) (hs : ∀ b ∈ s, b < 256) (hl : s.length ≤ 140737488351232) : ∃ k, g3 k s a1 = some true := by
 refine ⟨1940 + 60, ?_⟩
 unfold g3
 by_cases h15 : 1500 < s.length
 ·refine iT (dT (by omega)) ?_
  refine bS (by (try simp (disch := omega) only [fwI]); exact sTold_at 1940) ?_
  rfl
 ·refine iF (dF (by omega)) ?_
  refine bS (by (try simp (disch := omega) only [fwI]); exact scan_at (k := 1940 + 60) (by omega) hs hl) ?_
  refine bS (by (try simp (disch := omega) only [fwI]); exact rscan_at (k := 1940 + 60) (by omega) hs hl) ?_
  have sl := scanN_len s
  refine (jS (v := false) (fun j => ?_)).trans ?_
  ·rw [dT (p := (scanN s).2 = (scanN s).2) rfl]
   refine iF rfl ?_
   refine bS (by (try simp (disch := omega) only [fwI]); exact tokens_at (k := 1940 + 60) (l := (scanN s).1) sl.2 (by omega)) ?_
   rfl
  ·refine iF rfl ?_
   have last : ∀ x8 : S28 × Int, g14 (1940 + 60) s a1 = some x8 → (0 ≤ a1 ∧ a1 < s.length ∨ x8.2 = 4) → (g14 (1940 + 60) s a1).bind (fun x8_2 => (g10 (1940 + 60)).bind fun x9_0 => if x9_0 then (if (decide (0 ≤ a1)) then (if (decide (a1 < (s.length : Int))) then (some true) else (some (decide (x8_2.2 = 4)))) else (some (decide (x8_2.2 = 4)))) else (some false)) = some true := by
    intro x8 hx h
    refine bS (by (try simp (disch := omega) only [fwI]); exact hx) ?_
    refine bS (by (try simp (disch := omega) only [fwI]); exact sTold_at 1940) ?_
    refine iT rfl ?_
    by_cases h0 : 0 ≤ a1
    ·refine iT (dT h0) ?_
     by_cases h1 : a1 < (s.length : Int)
     ·exact iT (dT h1) rfl
     ·refine iF (dF h1) ?_
      rw [dT (h.resolve_left (fun h => h1 h.2))]
    ·refine iF (dF h0) ?_
     rw [dT (h.resolve_left (fun h => h0 h.1))]
   have fin : (g14 (1940 + 60) s a1).bind (fun x8_2 => (g10 (1940 + 60)).bind fun x9_0 => if x9_0 then (if (decide (0 ≤ a1)) then (if (decide (a1 < (s.length : Int))) then (some true) else (some (decide (x8_2.2 = 4)))) else (some (decide (x8_2.2 = 4)))) else (some false)) = some true := by
    by_cases h : 0 ≤ a1 ∧ a1 < s.length
    ·have e : a1 = ((a1.toNat : Nat) : Int) := (Int.toNat_of_nonneg h.1).symm
     have o := One_at (k := 1940 + 60) (s := s) (by omega) hs hl (a := a1.toNat) (by omega)
     rw [← e] at o
     exact last _ o (.inl h)
    ·exact last _ (One_out (by omega)) (.inr rfl)
   rcases Nat.eq_zero_or_pos s.length with h0 | hpos
   ·refine (jS (v := false) (fun j => ?_)).trans ?_
    ·exact iF (dF (by omega)) rfl
    ·refine (jS (v := a1) (fun j => rfl)).trans ?_
     refine (jS (v := ()) (fun j => ?_)).trans fin
     exact iF (dF (by omega)) rfl
   ·obtain ⟨b, hb, hj⟩ := at_in s a1 hpos (by omega)
    refine (jS (v := if decide (a1 < 0) then true else decide ((s.length : Int) < a1)) (fun j => ?_)).trans ?_
    ·refine iT (dT (by omega)) ?_
     split <;> rfl
    ·refine (jS (v := (b : Int)) (fun j => hj j)).trans ?_
     refine (jS (v := ()) (fun j => ?_)).trans fin
     refine iT (dT (by omega)) ?_
     have e1 : g14 (1940 + 60) s (b : Int) = some (if b < s.length then oneAt s b else (tok0, 4)) := by
      by_cases h : b < s.length
      ·rw [if_pos h]; exact One_at (by omega) hs hl h
      ·rw [if_neg h]; exact One_out (by omega)
     have e2 : g15 (1940 + 60) s (b : Int) = some (if b < s.length then oneAt s b else (tok0, 4)) := by
      by_cases h : b < s.length
      ·rw [if_pos h]; exact rOne_at (by omega) hs hl h
      ·rw [if_neg h]; exact rOne_out (by omega)
     refine bS (by (try simp (disch := omega) only [fwI]); exact e1) ?_
     refine bS (by (try simp (disch := omega) only [fwI]); exact e2) ?_
     generalize (if b < s.length then oneAt s b else (tok0, 4)) = T
     refine (jS (v := false) (fun j => ?_)).trans rfl
     rw [eqL_self, dT (p := T.1.f0 = T.1.f0) rfl, dT (p := T.1.f2 = T.1.f2) rfl, dT (p := T.2 = T.2) rfl]
     refine iF rfl ?_
     refine iF rfl ?_
     refine bS (by (try simp (disch := omega) only [fwI]); exact sblank_at (k := 1940 + 60) (by omega) hs hl hb) ?_
     refine bS (by (try simp (disch := omega) only [fwI]); exact rblank_at (k := 1940 + 60) (by omega) hs hl hb) ?_
     rw [dT rfl]
     rfl
end Go.Proofs.Ytokcjgjgojlhbaa.Am
set_option linter.unusedVariables false
set_option linter.unusedSimpArgs false
namespace Go.Proofs.Ytokcjgjgojlhbaa.Am
open Go
theorem scanAsks_walk (a0 : ByteArray) (a1 : Int) (W : World) (w0 : a0.size ≤ 140737488351232) (w1 : (Lit.int .i64 a1).wf = true) : Calls Try.prog 3 #[.string a0, .int .i64 a1] W fun e W' => e = .returned (.bool true) ∧ RowKit.Below W.heap.size W W' := by
 obtain ⟨k, h⟩ := scanAsks_true (a0.data.toList.map (·.toNat)) a1 (bytes_lt a0) (by simpa using w0)
 exact law_walk (g3_ok k (a0.data.toList.map (·.toNat)) a1 true h) (by simp only [VRs, VR]; exact ⟨_, _, rfl, ⟨a0, rfl, rfl⟩, ⟨_, _, rfl, rfl, rfl⟩⟩) W
end Go.Proofs.Ytokcjgjgojlhbaa.Am
namespace Go.Proofs.Ytokcjgjgojlhbaa.scanAsks
open Go.ChangeShapes Go.WideShapes Go.ChangeAt Go.RowKit
open Go.ChangeMaps (open_string shut_string)
set_option linter.unusedVariables false
theorem own : ownKnob Try.prog.godebug = none := by kernel_rfl
set_option maxRecDepth 100000 in
theorem lifted (os : Os) (started : os.Started) (H : Type) (enc : TypeId × Value → H) :
 ReturnsInHanded {} Try.checked os 3 .any (Rows.scanAsksSpec.pre6 enc Try.prog Try.f3 Rows.scanAsksRow.domain false) (Rows.scanAsksSpec.post enc Try.prog Try.f3 false true false false) := by
 refine returnsInHanded_of_change_sized (C := Try.checked) own started (by kernel_rfl) Try.func3
  (ChangeSpec.witness6 (enc := enc) (C := Try.checked) false ⟨#[], #[.string ByteArray.empty, .int .i64 0], []⟩ 8 (by kernel_rfl) (by kernel_rfl) (by kernel_rfl) (by kernel_rfl)) ?_
 intro W base args ds gs before hval0 hW hcnd hsz0 _
 have hsz : (DataW.weightsEach Try.prog (Try.f3.params.toList ++ Rows.scanAsksSpec.plain.varTypes Try.prog) (ds ++ gs)).all (· ≤ reachBytes) = true := hsz0
 have hval : ∀ (j : Nat) t v, Try.f3.params[j]? = some t → args[j]? = some v → Value.okWide Try.prog W .any base t v := hval0
 have hW' := hW
 obtain ⟨p, q, hA0, hV, rfl, hfz, hnd⟩ := hW
 have hA : DataW.TrodAll enc Try.prog W 0 (fun _ => true) true Try.f3.params.toList args.toList ds p := hA0
 rw [Try.params3] at hA hval hsz
 obtain ⟨v0, vs0, d0, ds0, p0, q0, hargs, rfl, rfl, h0, r0⟩ := trodAll_cons hA
 obtain ⟨v1, vs1, d1, ds1, p1, q1, rfl, rfl, rfl, h1, r1⟩ := trodAll_cons r0
 obtain ⟨rfl, rfl, rfl⟩ := trodAll_nil r1
 obtain rfl : args = #[v0, v1] := by cases args; simp_all
 obtain ⟨rfl, rfl⟩ := trodVars_none hV
 obtain ⟨a0, rfl, rfl, rfl, y0⟩ := open_string Try.underlying9 (hval 0 9 v0 rfl rfl) h0
 have w0 : a0.size ≤ 140737488351232 := by
  have z := sized_string hsz (j := 0) (t := 9) rfl rfl
  rw [Array.length_toList] at z
  exact z
 obtain ⟨a1, rfl, rfl, rfl, w1⟩ := open_int Try.underlying3 (hval 1 3 v1 rfl rfl) h1
 clear hA0 hval0 hsz0 hsz
 refine (Am.scanAsks_walk a0 a1 W w0 w1).mono fun e W' ⟨he, bel⟩ => ?_
 subst he
 exact ⟨_, rfl, _, _, _, [], _, [], hW', trodAll_mk1 (shut_bool Try.underlying4 _), (trodAll_cons_mk (shut_string Try.underlying9 y0) (trodAll_cons_mk (shut_int Try.underlying3 w1) trodAll_mk0)), rfl, bel.frame _, fun h => by cases h⟩
theorem over : Rows.scanAsksRow.holds Try.pinned (OpenSpec.ofChange Rows.scanAsksSpec) :=
 OpenClaim.holds_of_wide 3 Try.f3 rfl rfl rfl rfl rfl rfl rfl ⟨rfl, rfl, rfl, rfl, rfl⟩ rfl rfl rfl rfl rfl (by kernel_rfl) Try.func3 (by kernel_rfl)
  (of_decide_eq_true (by kernel_rfl)) (by unfold Func.isWrapper; first | (rw [if_pos (by decide +kernel)]; kernel_rfl) | (rw [if_neg (by decide +kernel)]; exact ⟨rfl, rfl⟩))
  (fun os started H enc _ => lifted os started H enc)
theorem proved : Rows.ScanAsksSaid := over
#print axioms proved
end Go.Proofs.Ytokcjgjgojlhbaa.scanAsks
namespace Go.Proofs.Ytokcjgjgojlhbaa
theorem scanAsks_holds : Rows.ScanAsksSaid := scanAsks.proved
end Go.Proofs.Ytokcjgjgojlhbaa
