/- LawSplitMany, part 3: whatever the input, the law comes out true: our texts, joined by a tool, without what the claim does not name. -/
import Derived.Test.YtbmijiibfaacmaaPkSplitMany2
set_option maxRecDepth 100000
set_option linter.unusedVariables false
set_option linter.unusedSimpArgs false
namespace Go.Proofs.Ytbmijiibfaacmaa.Am
open Go
theorem valid_l44 {k : Nat} (hk : 6 ≤ k) {s : List Nat} (hs : ∀ b ∈ s, b < 256) (hl : s.length ≤ 140737488351232) : ∀ (d m i : Nat), s.length ≤ i + d → i ≤ s.length → g44_l1 k s (d + 1 + m) (i : Int) = some (vld d (s.drop i)) := by
 intro d
 induction d with
 | zero =>
  intro m i h1 h2
  have e : s.drop i = [] := List.drop_eq_nil_of_le (by omega)
  rw [show 0 + 1 + m = m + 1 from by omega, g44_l1_s, e, decide_eq_false (show ¬ (i : Int) < (s.length : Int) by omega)]
  rfl
 | succ d ih =>
  intro m i h1 h2
  rw [show d + 1 + 1 + m = (d + 1 + m) + 1 from by omega, g44_l1_s]
  by_cases hi : i < s.length
  ·rw [decide_eq_true (show (i : Int) < (s.length : Int) by omega)]
   obtain ⟨c, r, hc, -, -⟩ := drop_cons hi
   obtain ⟨n, n1, n2, n3, n4, n5⟩ := dec_size (drop_lt hi)
   rw [List.length_drop] at n4
   have b1 : s.length ≤ i + n + d := by clear n1; omega
   have b2 : i + n ≤ s.length := by clear n1; omega
   simp only [rnext_at hk hs hl, Option.bind_some, if_true]
   have hv : vld (d + 1) (s.drop i) = if (dec (s.drop i)).1 < 0 then false else vld d ((s.drop i).drop (dec (s.drop i)).2.toNat) := by
    rw [hc]; rfl
   rw [hv]
   by_cases hneg : (dec (s.drop i)).1 < 0
   ·rw [decide_eq_true hneg, if_pos hneg]
    rfl
   ·rw [decide_eq_false hneg, if_neg hneg, n1, List.drop_drop]
    have e3 : fW .i64 ((i : Int) + (n : Int)) = ((i + n : Nat) : Int) := by
     have : (i : Int) + (n : Int) = ((i + n : Nat) : Int) := by omega
     rw [this, fwn _ (by omega)]
    rw [e3]
    exact ih m (i + n) b1 b2
  ·have e : s.drop i = [] := List.drop_eq_nil_of_le (by omega)
   rw [e, decide_eq_false (show ¬ (i : Int) < (s.length : Int) by omega)]
   rfl
theorem valid_at44 {k : Nat} {s : List Nat} (hk : s.length + 6 ≤ k) (hs : ∀ b ∈ s, b < 256) (hl : s.length ≤ 140737488351232) : g44 k s = some (vld s.length s) := by
 have h := valid_l44 (k := k) (by omega) hs hl s.length (k - (s.length + 1)) 0 (by omega) (by omega)
 rw [show s.length + 1 + (k - (s.length + 1)) = k from by omega] at h
 exact h
end Go.Proofs.Ytbmijiibfaacmaa.Am
set_option maxRecDepth 100000
set_option linter.unusedVariables false
set_option linter.unusedSimpArgs false
namespace Go.Proofs.Ytbmijiibfaacmaa.Am
open Go
def enc (c : Nat) : List Nat := if c < 128 then [c] else if c < 2048 then [192 + c / 64, 128 + c % 64] else if c < 65536 then [224 + c / 4096, 128 + c / 64 % 64, 128 + c % 64] else [240 + c / 262144, 128 + c / 4096 % 64, 128 + c / 64 % 64, 128 + c % 64]
def put (n : Int) : List Nat := if 0 ≤ n ∧ cpN n.toNat = true then enc n.toNat else []
end Go.Proofs.Ytbmijiibfaacmaa.Am
set_option maxRecDepth 100000
set_option linter.unusedVariables false
namespace Go.Proofs.Ytbmijiibfaacmaa.Am
noncomputable section
open Go
def X77 : Fx (Int × Int) := ⟨Try.prog, cx, Try.f77, fun r => .tuple [.int .i64 r.1, .int .i64 r.2], 0, fun _ => H0, cxTi, cxOrd⟩
def g77p0 : Pt := nav [0] (bodyAt Try.f77)
def g77p1 : Pt := nav [0, 0, 0] g77p0
def g77p2 : Pt := nav [0, 0, 0, 0, 0] g77p1
def g77p3 : Pt := nav [0, 0, 0] g77p2
def g77p4 : Pt := nav [0, 0] g77p3
def g77p5 : Pt := nav [1, 0, 0, 0] g77p4
def g77p7 : Pt := nav [0, 0] g77p5
def g77_l2 (k : Nat)  (a0 : (List Nat)) (a1 : Int) (a2 : Int) (a3 : Int) (n : Nat) : Int → Int → Option (Int × Int) :=
 Nat.rec (motive := fun _ => Int → Int → Option (Int × Int)) (fun _ _ => none) (fun _ ih => fun (y2_0 : Int) (y2_1 : Int) => jn (fun (z3 : Bool × Int × Int) => if z3.1 then ((nthS a0 (fW .i64 (a1 + z3.2.2))).bind fun x1_7 => (g78 k x1_7 a2).bind fun x1_9 => ih (fW .i64 (fW .i64 (z3.2.1 * a2) + x1_9)) (fW .i64 (z3.2.2 + 1))) else (some (z3.2.1, z3.2.2))) (fun j3 => if (decide (y2_1 < a3)) then (if (decide (fW .i64 (a1 + y2_1) < (a0.length : Int))) then ((nthS a0 (fW .i64 (a1 + y2_1))).bind fun x0_16 => (g78 k x0_16 a2).bind fun x0_18 => j3 (decide (0 ≤ x0_18), y2_0, y2_1)) else (j3 (false, y2_0, y2_1))) else (j3 (false, y2_0, y2_1)))) n
theorem g77_l2_s (k : Nat)  (a0 : (List Nat)) (a1 : Int) (a2 : Int) (a3 : Int) (n : Nat) (y2_0 : Int) (y2_1 : Int) : g77_l2 k a0 a1 a2 a3 (n + 1) y2_0 y2_1 = (jn (fun (z3 : Bool × Int × Int) => if z3.1 then ((nthS a0 (fW .i64 (a1 + z3.2.2))).bind fun x1_7 => (g78 k x1_7 a2).bind fun x1_9 => (g77_l2 k a0 a1 a2 a3 n) (fW .i64 (fW .i64 (z3.2.1 * a2) + x1_9)) (fW .i64 (z3.2.2 + 1))) else (some (z3.2.1, z3.2.2))) (fun j3 => if (decide (y2_1 < a3)) then (if (decide (fW .i64 (a1 + y2_1) < (a0.length : Int))) then ((nthS a0 (fW .i64 (a1 + y2_1))).bind fun x0_16 => (g78 k x0_16 a2).bind fun x0_18 => j3 (decide (0 ≤ x0_18), y2_0, y2_1)) else (j3 (false, y2_0, y2_1))) else (j3 (false, y2_0, y2_1)))) := rfl
theorem g77_l2_ok (k : Nat)  (a0 : (List Nat)) (a1 : Int) (a2 : Int) (a3 : Int)  : ∀ (n : Nat) (y2_0 : Int) (y2_1 : Int), Ok X77 g77p2 [(0, .str a0), (1, .int .i64 a1), (2, .int .i64 a2), (3, .int .i64 a3), (10, .int .i64 y2_0), (11, .int .i64 y2_1)] (mkH []) (g77_l2 k a0 a1 a2 a3 n y2_0 y2_1)
 | 0, _, _ => ok_none
 | n + 1, y2_0, y2_1 => by
  have ih := g77_l2_ok k a0 a1 a2 a3 n
  rw [g77_l2_s]
  refine ok_ent (p' := nav [0] g77p2) (by kernel_rfl) ?_
  let E2 : Env := [(15, .bool (decide (y2_1 < a3))), (14, .bool (decide (y2_1 < a3))), (13, .int .i64 a3), (12, .int .i64 y2_1), (0, .str a0), (1, .int .i64 a1), (2, .int .i64 a2), (3, .int .i64 a3), (10, .int .i64 y2_0), (11, .int .i64 y2_1)]
  refine oR 7 (p' := (atN 4 (ctl1 g77p3))) (eE := E2) (H' := (mkH [])) (by kernel_rfl) ?_
  refine oJ (f := fun (z3 : Bool × Int × Int) => if z3.1 then ((nthS a0 (fW .i64 (a1 + z3.2.2))).bind fun x1_7 => (g78 k x1_7 a2).bind fun x1_9 => (g77_l2 k a0 a1 a2 a3 n) (fW .i64 (fW .i64 (z3.2.1 * a2) + x1_9)) (fW .i64 (z3.2.2 + 1))) else (some (z3.2.1, z3.2.2))) g77p4 (fun (z3 : Bool × Int × Int) => [(0, .str a0), (1, .int .i64 a1), (2, .int .i64 a2), (3, .int .i64 a3), (10, .int .i64 z3.2.1), (11, .int .i64 z3.2.2), (32, .bool z3.1)]) (fun (z3 : Bool × Int × Int) => (mkH [])) (fun z3 => ?_) (fun j3 hj3 => ?_)
  ·refine oS 32 (b := z3.1) (by kernel_rfl) (fun hb => ?_) (fun hb => ?_)
   ·let E3 : Env := [(39, .int .i64 (fW .i64 (a1 + z3.2.2))), (38, .int .i64 z3.2.2), (37, .int .i64 a1), (36, .str a0), (35, .int .i64 (fW .i64 (z3.2.1 * a2))), (34, .int .i64 a2), (33, .int .i64 z3.2.1), (32, .bool true), (0, .str a0), (1, .int .i64 a1), (2, .int .i64 a2), (3, .int .i64 a3), (10, .int .i64 z3.2.1), (11, .int .i64 z3.2.2), (32, .bool z3.1)]
    refine oR 12 (p' := (atN 7 (ctl1 g77p5))) (eE := E3) (H' := (mkH [])) (by kernel_rfl) ?_
    refine oH (fun (x1_7 : Int) => (.int .u8 x1_7, (mkH []))) (atN 8 (ctl1 g77p5)) (fun x1_7 => ((40, .int .u8 x1_7) :: E3)) (idxH (by kernel_rfl)) (fun _ => by kernel_rfl) (fun x1_7 hx1_7 => ?_)
    refine oR 1 (p' := (atN 9 (ctl1 g77p5))) (eE := ((41, .int .i64 a2) :: (40, .int .u8 x1_7) :: E3)) (H' := (mkH [])) (by kernel_rfl) ?_
    refine oC (fun (x1_9 : Int) => .int .i64 x1_9) (atN 10 (ctl1 g77p5)) (fun x1_9 => ((42, .int .i64 x1_9) :: (41, .int .i64 a2) :: (40, .int .u8 x1_7) :: E3)) (fi := 78) (args := [.int .u8 x1_7, .int .i64 a2]) (by kernel_rfl) (by kernel_rfl) (fun _ => by kernel_rfl) (fun r h => g78_ok k x1_7 a2 r h) (fun _ => by kernel_rfl) (fun x1_9 hx1_9 => ?_)
    let E4 : Env := ((10, .int .i64 (fW .i64 (fW .i64 (z3.2.1 * a2) + x1_9))) :: (43, .int .i64 (fW .i64 (fW .i64 (z3.2.1 * a2) + x1_9))) :: (42, .int .i64 x1_9) :: (41, .int .i64 a2) :: (40, .int .u8 x1_7) :: E3)
    refine oR 3 (p' := g77p7) (eE := E4) (H' := (mkH [])) (by kernel_rfl) ?_
    refine oK [0, 1, 2, 3, 10, 11] (eE := [(0, .str a0), (1, .int .i64 a1), (2, .int .i64 a2), (3, .int .i64 a3), (10, .int .i64 (fW .i64 (fW .i64 (z3.2.1 * a2) + x1_9))), (11, .int .i64 z3.2.2)]) (by kernel_rfl) ?_
    let E5 : Env := [(11, .int .i64 (fW .i64 (z3.2.2 + 1))), (45, .int .i64 (fW .i64 (z3.2.2 + 1))), (44, .int .i64 z3.2.2), (0, .str a0), (1, .int .i64 a1), (2, .int .i64 a2), (3, .int .i64 a3), (10, .int .i64 (fW .i64 (fW .i64 (z3.2.1 * a2) + x1_9))), (11, .int .i64 z3.2.2)]
    refine oR 5 (p' := g77p2) (eE := E5) (H' := (mkH [])) (by kernel_rfl) ?_
    refine oK [0, 1, 2, 3, 10, 11] (eE := [(0, .str a0), (1, .int .i64 a1), (2, .int .i64 a2), (3, .int .i64 a3), (10, .int .i64 (fW .i64 (fW .i64 (z3.2.1 * a2) + x1_9))), (11, .int .i64 (fW .i64 (z3.2.2 + 1)))]) (by kernel_rfl) ?_
    exact ih (fW .i64 (fW .i64 (z3.2.1 * a2) + x1_9)) (fW .i64 (z3.2.2 + 1))
   ·let E6 : Env := [(9, .int .i64 z3.2.2), (8, .int .i64 z3.2.1), (47, .int .i64 z3.2.2), (46, .int .i64 z3.2.1), (32, .bool false), (0, .str a0), (1, .int .i64 a1), (2, .int .i64 a2), (3, .int .i64 a3), (10, .int .i64 z3.2.1), (11, .int .i64 z3.2.2), (32, .bool z3.1)]
    refine oR 10 (p' := .fin) (eE := E6) (H' := (mkH [])) (by kernel_rfl) ?_
    exact oT (r := (z3.2.1, z3.2.2)) (xs := [.int .i64 z3.2.1, .int .i64 z3.2.2]) (v := .tuple [.int .i64 z3.2.1, .int .i64 z3.2.2]) (by kernel_rfl) (by kernel_rfl) (by kernel_rfl) (.pures (by kernel_rfl)) (by kernel_rfl)
  ·refine oS 15 (b := decide (y2_1 < a3)) (by kernel_rfl) (fun hb => ?_) (fun hb => ?_)
   ·let E7 : Env := ((23, .bool (decide (fW .i64 (a1 + y2_1) < (a0.length : Int)))) :: (22, .bool (decide (fW .i64 (a1 + y2_1) < (a0.length : Int)))) :: (21, .bool (decide (fW .i64 (a1 + y2_1) < (a0.length : Int)))) :: (20, .int .i64 (a0.length : Int)) :: (19, .str a0) :: (18, .int .i64 (fW .i64 (a1 + y2_1))) :: (17, .int .i64 y2_1) :: (16, .int .i64 a1) :: (15, .bool true) :: E2)
    refine oR 8 (p' := (atN 12 (ctl1 g77p3))) (eE := E7) (H' := (mkH [])) (by kernel_rfl) ?_
    refine oS 23 (b := decide (fW .i64 (a1 + y2_1) < (a0.length : Int))) (by kernel_rfl) (fun hb => ?_) (fun hb => ?_)
    ·let E8 : Env := ((27, .int .i64 (fW .i64 (a1 + y2_1))) :: (26, .int .i64 y2_1) :: (25, .int .i64 a1) :: (24, .str a0) :: (23, .bool true) :: E7)
     refine oR 4 (p' := (atN 16 (ctl1 g77p3))) (eE := E8) (H' := (mkH [])) (by kernel_rfl) ?_
     refine oH (fun (x0_16 : Int) => (.int .u8 x0_16, (mkH []))) (atN 17 (ctl1 g77p3)) (fun x0_16 => ((28, .int .u8 x0_16) :: E8)) (idxH (by kernel_rfl)) (fun _ => by kernel_rfl) (fun x0_16 hx0_16 => ?_)
     refine oR 1 (p' := (atN 18 (ctl1 g77p3))) (eE := ((29, .int .i64 a2) :: (28, .int .u8 x0_16) :: E8)) (H' := (mkH [])) (by kernel_rfl) ?_
     refine oC (fun (x0_18 : Int) => .int .i64 x0_18) (atN 19 (ctl1 g77p3)) (fun x0_18 => ((30, .int .i64 x0_18) :: (29, .int .i64 a2) :: (28, .int .u8 x0_16) :: E8)) (fi := 78) (args := [.int .u8 x0_16, .int .i64 a2]) (by kernel_rfl) (by kernel_rfl) (fun _ => by kernel_rfl) (fun r h => g78_ok k x0_16 a2 r h) (fun _ => by kernel_rfl) (fun x0_18 hx0_18 => ?_)
     let E9 : Env := ((32, .bool (decide (0 ≤ x0_18))) :: (31, .bool (decide (0 ≤ x0_18))) :: (30, .int .i64 x0_18) :: (29, .int .i64 a2) :: (28, .int .u8 x0_16) :: E8)
     refine oR 3 (p' := g77p4) (eE := E9) (H' := (mkH [])) (by kernel_rfl) ?_
     refine oK [0, 1, 2, 3, 10, 11, 32] (eE := [(0, .str a0), (1, .int .i64 a1), (2, .int .i64 a2), (3, .int .i64 a3), (10, .int .i64 y2_0), (11, .int .i64 y2_1), (32, .bool (decide (0 ≤ x0_18)))]) (by kernel_rfl) ?_
     exact hj3 (decide (0 ≤ x0_18), y2_0, y2_1)
    ·let E10 : Env := ((32, .bool false) :: (31, .tuple []) :: (30, .tuple []) :: (29, .tuple []) :: (28, .tuple []) :: (27, .tuple []) :: (26, .tuple []) :: (25, .tuple []) :: (24, .tuple []) :: (23, .bool false) :: E7)
     refine oR 10 (p' := g77p4) (eE := E10) (H' := (mkH [])) (by kernel_rfl) ?_
     refine oK [0, 1, 2, 3, 10, 11, 32] (eE := [(0, .str a0), (1, .int .i64 a1), (2, .int .i64 a2), (3, .int .i64 a3), (10, .int .i64 y2_0), (11, .int .i64 y2_1), (32, .bool false)]) (by kernel_rfl) ?_
     exact hj3 (false, y2_0, y2_1)
   ·let E11 : Env := ((32, .bool false) :: (31, .tuple []) :: (30, .tuple []) :: (29, .tuple []) :: (28, .tuple []) :: (27, .tuple []) :: (26, .tuple []) :: (25, .tuple []) :: (24, .tuple []) :: (23, .bool false) :: (22, .bool false) :: (21, .tuple []) :: (20, .tuple []) :: (19, .tuple []) :: (18, .tuple []) :: (17, .tuple []) :: (16, .tuple []) :: (15, .bool false) :: E2)
    refine oR 18 (p' := g77p4) (eE := E11) (H' := (mkH [])) (by kernel_rfl) ?_
    refine oK [0, 1, 2, 3, 10, 11, 32] (eE := [(0, .str a0), (1, .int .i64 a1), (2, .int .i64 a2), (3, .int .i64 a3), (10, .int .i64 y2_0), (11, .int .i64 y2_1), (32, .bool false)]) (by kernel_rfl) ?_
    exact hj3 (false, y2_0, y2_1)
def g77 (k : Nat) (a0 : (List Nat)) (a1 : Int) (a2 : Int) (a3 : Int) : Option (Int × Int) :=
 g77_l2 k a0 a1 a2 a3 k 0 0
theorem g77_ok (k : Nat) (a0 : (List Nat)) (a1 : Int) (a2 : Int) (a3 : Int) (r : (Int × Int)) (h : g77 k a0 a1 a2 a3 = some r) : PureOk Try.prog 77 [.str a0, .int .i64 a1, .int .i64 a2, .int .i64 a3] (.tuple [.int .i64 r.1, .int .i64 r.2]) := by
 refine pure_of X77 (fun _ => rfl) Try.func77 (by decide +kernel) (by kernel_rfl) (t := g77 k a0 a1 a2 a3) ?_ h
 unfold g77
 refine oE (eE := [(0, .str a0), (1, .int .i64 a1), (2, .int .i64 a2), (3, .int .i64 a3)]) (by kernel_rfl) ?_
 let E1 : Env := [(11, .int .i64 0), (10, .int .i64 0), (9, .int .i64 0), (8, .int .i64 0), (0, .str a0), (1, .int .i64 a1), (2, .int .i64 a2), (3, .int .i64 a3)]
 refine oR 13 (p' := g77p2) (eE := E1) (H' := (mkH [])) (by kernel_rfl) ?_
 refine oK [0, 1, 2, 3, 10, 11] (eE := [(0, .str a0), (1, .int .i64 a1), (2, .int .i64 a2), (3, .int .i64 a3), (10, .int .i64 0), (11, .int .i64 0)]) (by kernel_rfl) ?_
 exact (g77_l2_ok k a0 a1 a2 a3 k) 0 0
end
end Go.Proofs.Ytbmijiibfaacmaa.Am
set_option maxRecDepth 100000
set_option linter.unusedVariables false
namespace Go.Proofs.Ytbmijiibfaacmaa.Am
noncomputable section
open Go
def X75 : Fx (Int × Int) := ⟨Try.prog, cx, Try.f75, fun r => .tuple [.int .i64 r.1, .int .i64 r.2], 0, fun _ => H0, cxTi, cxOrd⟩
def g75c0 : List Int := [(8 : Int), (127 : Int), (27 : Int), (12 : Int), (10 : Int), (13 : Int), (32 : Int), (9 : Int), (11 : Int)]
def g75c1 : List Nat := [98, 100, 101, 102, 110, 114, 115, 116, 118]
def g75p0 : Pt := nav [0] (bodyAt Try.f75)
def g75p1 : Pt := nav [0, 0, 0, 0] g75p0
def g75p2 : Pt := nav [0, 0] g75p1
def g75p4 : Pt := nav [2, 0, 0] g75p2
def g75p6 : Pt := nav [0, 0, 0] g75p4
def g75p7 : Pt := nav [0, 0, 0, 0] g75p6
def g75p8 : Pt := nav [0, 0, 0, 0] g75p7
def g75p9 : Pt := nav [0, 0, 0] g75p8
def g75p10 : Pt := nav [0, 0] g75p9
def g75p11 : Pt := nav [1, 0, 0, 0, 0] g75p10
def g75p12 : Pt := nav [2, 0, 0, 0, 0] g75p10
def g75p13 : Pt := nav [0, 0] g75p11
def g75p14 : Pt := nav [0, 0] g75p12
def g75p15 : Pt := nav [1, 0] g75p13
def g75p17 : Pt := nav [1, 0] g75p14
def g75p18 : Pt := nav [2, 0] g75p14
def g75p19 : Pt := nav [0, 0, 0] g75p17
def g75p20 : Pt := nav [0, 0] g75p18
def g75p21 : Pt := nav [1, 0] g75p20
def g75p22 : Pt := nav [2, 0] g75p20
def g75p23 : Pt := nav [0, 0, 0, 0] g75p21
def g75p24 : Pt := nav [0, 0] g75p22
def g75p25 : Pt := nav [0, 0] g75p23
def g75p26 : Pt := nav [1, 0] g75p24
def g75p27 : Pt := nav [2, 0] g75p24
def g75p30 : Pt := nav [0, 0, 0, 0] g75p26
def g75p31 : Pt := nav [0, 0] g75p27
def g75p32 : Pt := nav [0, 0] g75p30
def g75p33 : Pt := nav [1, 0, 0] g75p31
def g75p34 : Pt := nav [2, 0, 0] g75p31
def g75p37 : Pt := nav [0, 0] g75p33
def g75p38 : Pt := nav [0, 0, 0, 0] g75p34
def g75p40 : Pt := nav [2, 0, 0] g75p37
def g75p41 : Pt := nav [0, 0] g75p38
def g75_l13 (k : Nat)  (a0 : (List Nat)) (a1 : Int) (x1_3 : Int) (n : Nat) : Int → Option (Int × Int) :=
 Nat.rec (motive := fun _ => Int → Option (Int × Int)) (fun _ => none) (fun _ ih => fun (y13_0 : Int) => if (decide (y13_0 < 9)) then ((nthS g75c1 y13_0).bind fun x3_2 => if (decide (x3_2 = x1_3)) then ((nthL g75c0 y13_0).bind fun x2_2 => some (x2_2, (2 : Int))) else (ih (fW .i64 (y13_0 + 1)))) else (jn (fun (z14 : Bool) => if z14 then ((g77 k a0 (fW .i64 (a1 + 1)) (8 : Int) (3 : Int)).bind fun x4_3 => some (x4_3.1, fW .i64 (1 + x4_3.2))) else (jn (fun (z15 : Bool) => if z15 then ((g77 k a0 (fW .i64 (a1 + 3)) (16 : Int) (6 : Int)).bind fun x6_3 => jn (fun (z16 : Bool) => if z16 then (some (((-1) : Int), (0 : Int))) else (some (x6_3.1, fW .i64 (4 + x6_3.2)))) (fun j16 => if (decide (x6_3.2 = 0)) then (j16 true) else (if (decide ((a0.length : Int) ≤ fW .i64 (fW .i64 (a1 + 3) + x6_3.2))) then (j16 true) else ((nthS a0 (fW .i64 (fW .i64 (a1 + 3) + x6_3.2))).bind fun x7_17 => if (!decide (x7_17 = 125)) then (j16 true) else ((g70 k x6_3.1).bind fun x7_22 => j16 (!x7_22)))))) else (if (decide (x1_3 = 120)) then ((g77 k a0 (fW .i64 (a1 + 2)) (16 : Int) (2 : Int)).bind fun x8_3 => if (decide (x8_3.2 < 2)) then (some (((-1) : Int), (0 : Int))) else (some (x8_3.1, (4 : Int)))) else (if (decide (x1_3 = 94)) then (jn (fun (z17 : Bool) => if z17 then (some (((-1) : Int), (0 : Int))) else ((nthS a0 (fW .i64 (a1 + 2))).bind fun x11_3 => some (andI .i64 (fW .i64 x11_3) 31, (3 : Int)))) (fun j17 => if (decide ((a0.length : Int) ≤ fW .i64 (a1 + 2))) then (j17 true) else ((nthS a0 (fW .i64 (a1 + 2))).bind fun x9_9 => if (decide (64 ≤ x9_9)) then ((nthS a0 (fW .i64 (a1 + 2))).bind fun x9_15 => if (decide (x9_15 ≤ 95)) then (j17 false) else ((nthS a0 (fW .i64 (a1 + 2))).bind fun x9_22 => if (decide (97 ≤ x9_22)) then ((nthS a0 (fW .i64 (a1 + 2))).bind fun x9_28 => j17 (!(decide (x9_28 ≤ 122)))) else (j17 true))) else ((nthS a0 (fW .i64 (a1 + 2))).bind fun x9_22 => if (decide (97 ≤ x9_22)) then ((nthS a0 (fW .i64 (a1 + 2))).bind fun x9_28 => j17 (!(decide (x9_28 ≤ 122)))) else (j17 true))))) else ((g56 k a0 (fW .i64 (a1 + 1))).bind fun x10_3 => if (decide (x10_3.1 < 32)) then (some (((-1) : Int), (0 : Int))) else (some (x10_3.1, fW .i64 (1 + x10_3.2))))))) (fun j15 => if (decide (x1_3 = 120)) then (if (decide (fW .i64 (a1 + 2) < (a0.length : Int))) then ((nthS a0 (fW .i64 (a1 + 2))).bind fun x5_13 => j15 (decide (x5_13 = 123))) else (j15 false)) else (j15 false)))) (fun j14 => if (decide (48 ≤ x1_3)) then (j14 (decide (x1_3 ≤ 55))) else (j14 false)))) n
theorem g75_l13_s (k : Nat)  (a0 : (List Nat)) (a1 : Int) (x1_3 : Int) (n : Nat) (y13_0 : Int) : g75_l13 k a0 a1 x1_3 (n + 1) y13_0 = (if (decide (y13_0 < 9)) then ((nthS g75c1 y13_0).bind fun x3_2 => if (decide (x3_2 = x1_3)) then ((nthL g75c0 y13_0).bind fun x2_2 => some (x2_2, (2 : Int))) else ((g75_l13 k a0 a1 x1_3 n) (fW .i64 (y13_0 + 1)))) else (jn (fun (z14 : Bool) => if z14 then ((g77 k a0 (fW .i64 (a1 + 1)) (8 : Int) (3 : Int)).bind fun x4_3 => some (x4_3.1, fW .i64 (1 + x4_3.2))) else (jn (fun (z15 : Bool) => if z15 then ((g77 k a0 (fW .i64 (a1 + 3)) (16 : Int) (6 : Int)).bind fun x6_3 => jn (fun (z16 : Bool) => if z16 then (some (((-1) : Int), (0 : Int))) else (some (x6_3.1, fW .i64 (4 + x6_3.2)))) (fun j16 => if (decide (x6_3.2 = 0)) then (j16 true) else (if (decide ((a0.length : Int) ≤ fW .i64 (fW .i64 (a1 + 3) + x6_3.2))) then (j16 true) else ((nthS a0 (fW .i64 (fW .i64 (a1 + 3) + x6_3.2))).bind fun x7_17 => if (!decide (x7_17 = 125)) then (j16 true) else ((g70 k x6_3.1).bind fun x7_22 => j16 (!x7_22)))))) else (if (decide (x1_3 = 120)) then ((g77 k a0 (fW .i64 (a1 + 2)) (16 : Int) (2 : Int)).bind fun x8_3 => if (decide (x8_3.2 < 2)) then (some (((-1) : Int), (0 : Int))) else (some (x8_3.1, (4 : Int)))) else (if (decide (x1_3 = 94)) then (jn (fun (z17 : Bool) => if z17 then (some (((-1) : Int), (0 : Int))) else ((nthS a0 (fW .i64 (a1 + 2))).bind fun x11_3 => some (andI .i64 (fW .i64 x11_3) 31, (3 : Int)))) (fun j17 => if (decide ((a0.length : Int) ≤ fW .i64 (a1 + 2))) then (j17 true) else ((nthS a0 (fW .i64 (a1 + 2))).bind fun x9_9 => if (decide (64 ≤ x9_9)) then ((nthS a0 (fW .i64 (a1 + 2))).bind fun x9_15 => if (decide (x9_15 ≤ 95)) then (j17 false) else ((nthS a0 (fW .i64 (a1 + 2))).bind fun x9_22 => if (decide (97 ≤ x9_22)) then ((nthS a0 (fW .i64 (a1 + 2))).bind fun x9_28 => j17 (!(decide (x9_28 ≤ 122)))) else (j17 true))) else ((nthS a0 (fW .i64 (a1 + 2))).bind fun x9_22 => if (decide (97 ≤ x9_22)) then ((nthS a0 (fW .i64 (a1 + 2))).bind fun x9_28 => j17 (!(decide (x9_28 ≤ 122)))) else (j17 true))))) else ((g56 k a0 (fW .i64 (a1 + 1))).bind fun x10_3 => if (decide (x10_3.1 < 32)) then (some (((-1) : Int), (0 : Int))) else (some (x10_3.1, fW .i64 (1 + x10_3.2))))))) (fun j15 => if (decide (x1_3 = 120)) then (if (decide (fW .i64 (a1 + 2) < (a0.length : Int))) then ((nthS a0 (fW .i64 (a1 + 2))).bind fun x5_13 => j15 (decide (x5_13 = 123))) else (j15 false)) else (j15 false)))) (fun j14 => if (decide (48 ≤ x1_3)) then (j14 (decide (x1_3 ≤ 55))) else (j14 false)))) := rfl
theorem g75_l13_ok (k : Nat)  (a0 : (List Nat)) (a1 : Int) (x1_3 : Int)  : ∀ (n : Nat) (y13_0 : Int), Ok X75 g75p8 [(0, .str a0), (1, .int .i64 a1), (6, .int .u8 x1_3), (7, .str g75c1), (8, .vec (g75c0).length 1 ((g75c0).flatMap e3)), (9, .int .i64 y13_0)] (mkH []) (g75_l13 k a0 a1 x1_3 n y13_0)
 | 0, _ => ok_none
 | n + 1, y13_0 => by
  have ih := g75_l13_ok k a0 a1 x1_3 n
  rw [g75_l13_s]
  refine ok_ent (p' := nav [0] g75p8) (by kernel_rfl) ?_
  let E5 : Env := [(41, .bool (decide (y13_0 < 9))), (40, .int .i64 9), (39, .str g75c1), (38, .int .i64 y13_0), (0, .str a0), (1, .int .i64 a1), (6, .int .u8 x1_3), (7, .str g75c1), (8, .vec (g75c0).length 1 ((g75c0).flatMap e3)), (9, .int .i64 y13_0)]
  refine oR 8 (p' := g75p10) (eE := E5) (H' := (mkH [])) (by kernel_rfl) ?_
  refine oS 41 (b := decide (y13_0 < 9)) (by kernel_rfl) (fun hb => ?_) (fun hb => ?_)
  ·refine oR 8 (p' := (atN 2 (ctl1 g75p11))) (eE := ((45, .int .i64 y13_0) :: (44, .str g75c1) :: (41, .bool true) :: E5)) (H' := (mkH [])) (by kernel_rfl) ?_
   refine oH (fun (x3_2 : Int) => (.int .u8 x3_2, (mkH []))) (atN 3 (ctl1 g75p11)) (fun x3_2 => ((46, .int .u8 x3_2) :: (45, .int .i64 y13_0) :: (44, .str g75c1) :: (41, .bool true) :: E5)) (idxH (by kernel_rfl)) (fun _ => by kernel_rfl) (fun x3_2 hx3_2 => ?_)
   let E6 : Env := ((48, .bool (decide (x3_2 = x1_3))) :: (47, .int .u8 x1_3) :: (46, .int .u8 x3_2) :: (45, .int .i64 y13_0) :: (44, .str g75c1) :: (41, .bool true) :: E5)
   refine oR 3 (p' := g75p13) (eE := E6) (H' := (mkH [])) (by kernel_rfl) ?_
   refine oK [0, 1, 6, 7, 8, 9, 48] (eE := [(0, .str a0), (1, .int .i64 a1), (6, .int .u8 x1_3), (7, .str g75c1), (8, .vec (g75c0).length 1 ((g75c0).flatMap e3)), (9, .int .i64 y13_0), (48, .bool (decide (x3_2 = x1_3)))]) (by kernel_rfl) ?_
   refine oS 48 (b := decide (x3_2 = x1_3)) (by kernel_rfl) (fun hb => ?_) (fun hb => ?_)
   ·let E7 : Env := [(50, .int .i64 y13_0), (49, .vec (g75c0).length 1 ((g75c0).flatMap e3)), (48, .bool true), (0, .str a0), (1, .int .i64 a1), (6, .int .u8 x1_3), (7, .str g75c1), (8, .vec (g75c0).length 1 ((g75c0).flatMap e3)), (9, .int .i64 y13_0), (48, .bool (decide (x3_2 = x1_3)))]
    refine oR 5 (p' := (atN 2 (ctl1 g75p15))) (eE := E7) (H' := (mkH [])) (by kernel_rfl) ?_
    refine oH (fun (x2_2 : Int) => (.vptr [.int .i64 x2_2], (mkH []))) (atN 3 (ctl1 g75p15)) (fun x2_2 => ((51, .vptr [.int .i64 x2_2]) :: E7)) (vidxH (sz := 1) e3_len (by kernel_rfl)) (fun _ => by kernel_rfl) (fun x2_2 hx2_2 => ?_)
    refine oR 5 (p' := .fin) (eE := ((5, .int .i64 2) :: (4, .int .i64 x2_2) :: (52, .int .i64 x2_2) :: (51, .vptr [.int .i64 x2_2]) :: E7)) (H' := (mkH [])) (by kernel_rfl) ?_
    exact oT (r := (x2_2, (2 : Int))) (xs := [.int .i64 x2_2, .int .i64 2]) (v := .tuple [.int .i64 x2_2, .int .i64 2]) (by kernel_rfl) (by kernel_rfl) (by kernel_rfl) (.pures (by kernel_rfl)) (by kernel_rfl)
   ·let E8 : Env := [(9, .int .i64 (fW .i64 (y13_0 + 1))), (43, .int .i64 (fW .i64 (y13_0 + 1))), (42, .int .i64 y13_0), (48, .bool false), (0, .str a0), (1, .int .i64 a1), (6, .int .u8 x1_3), (7, .str g75c1), (8, .vec (g75c0).length 1 ((g75c0).flatMap e3)), (9, .int .i64 y13_0), (48, .bool (decide (x3_2 = x1_3)))]
    refine oR 7 (p' := g75p8) (eE := E8) (H' := (mkH [])) (by kernel_rfl) ?_
    refine oK [0, 1, 6, 7, 8, 9] (eE := [(0, .str a0), (1, .int .i64 a1), (6, .int .u8 x1_3), (7, .str g75c1), (8, .vec (g75c0).length 1 ((g75c0).flatMap e3)), (9, .int .i64 (fW .i64 (y13_0 + 1)))]) (by kernel_rfl) ?_
    exact ih (fW .i64 (y13_0 + 1))
  ·refine oR 9 (p' := (atN 3 (ctl1 g75p12))) (eE := ((56, .bool (decide (48 ≤ x1_3))) :: (55, .bool (decide (48 ≤ x1_3))) :: (54, .int .u8 x1_3) :: (41, .bool false) :: E5)) (H' := (mkH [])) (by kernel_rfl) ?_
   refine oJ (f := fun (z14 : Bool) => if z14 then ((g77 k a0 (fW .i64 (a1 + 1)) (8 : Int) (3 : Int)).bind fun x4_3 => some (x4_3.1, fW .i64 (1 + x4_3.2))) else (jn (fun (z15 : Bool) => if z15 then ((g77 k a0 (fW .i64 (a1 + 3)) (16 : Int) (6 : Int)).bind fun x6_3 => jn (fun (z16 : Bool) => if z16 then (some (((-1) : Int), (0 : Int))) else (some (x6_3.1, fW .i64 (4 + x6_3.2)))) (fun j16 => if (decide (x6_3.2 = 0)) then (j16 true) else (if (decide ((a0.length : Int) ≤ fW .i64 (fW .i64 (a1 + 3) + x6_3.2))) then (j16 true) else ((nthS a0 (fW .i64 (fW .i64 (a1 + 3) + x6_3.2))).bind fun x7_17 => if (!decide (x7_17 = 125)) then (j16 true) else ((g70 k x6_3.1).bind fun x7_22 => j16 (!x7_22)))))) else (if (decide (x1_3 = 120)) then ((g77 k a0 (fW .i64 (a1 + 2)) (16 : Int) (2 : Int)).bind fun x8_3 => if (decide (x8_3.2 < 2)) then (some (((-1) : Int), (0 : Int))) else (some (x8_3.1, (4 : Int)))) else (if (decide (x1_3 = 94)) then (jn (fun (z17 : Bool) => if z17 then (some (((-1) : Int), (0 : Int))) else ((nthS a0 (fW .i64 (a1 + 2))).bind fun x11_3 => some (andI .i64 (fW .i64 x11_3) 31, (3 : Int)))) (fun j17 => if (decide ((a0.length : Int) ≤ fW .i64 (a1 + 2))) then (j17 true) else ((nthS a0 (fW .i64 (a1 + 2))).bind fun x9_9 => if (decide (64 ≤ x9_9)) then ((nthS a0 (fW .i64 (a1 + 2))).bind fun x9_15 => if (decide (x9_15 ≤ 95)) then (j17 false) else ((nthS a0 (fW .i64 (a1 + 2))).bind fun x9_22 => if (decide (97 ≤ x9_22)) then ((nthS a0 (fW .i64 (a1 + 2))).bind fun x9_28 => j17 (!(decide (x9_28 ≤ 122)))) else (j17 true))) else ((nthS a0 (fW .i64 (a1 + 2))).bind fun x9_22 => if (decide (97 ≤ x9_22)) then ((nthS a0 (fW .i64 (a1 + 2))).bind fun x9_28 => j17 (!(decide (x9_28 ≤ 122)))) else (j17 true))))) else ((g56 k a0 (fW .i64 (a1 + 1))).bind fun x10_3 => if (decide (x10_3.1 < 32)) then (some (((-1) : Int), (0 : Int))) else (some (x10_3.1, fW .i64 (1 + x10_3.2))))))) (fun j15 => if (decide (x1_3 = 120)) then (if (decide (fW .i64 (a1 + 2) < (a0.length : Int))) then ((nthS a0 (fW .i64 (a1 + 2))).bind fun x5_13 => j15 (decide (x5_13 = 123))) else (j15 false)) else (j15 false)))) g75p14 (fun (z14 : Bool) => [(0, .str a0), (1, .int .i64 a1), (6, .int .u8 x1_3), (53, .bool z14)]) (fun (z14 : Bool) => (mkH [])) (fun z14 => ?_) (fun j14 hj14 => ?_)
   ·refine oS 53 (b := z14) (by kernel_rfl) (fun hb => ?_) (fun hb => ?_)
    ·let E9 : Env := [(63, .int .i64 (fW .i64 (a1 + 1))), (62, .int .i64 a1), (61, .str a0), (53, .bool true), (0, .str a0), (1, .int .i64 a1), (6, .int .u8 x1_3), (53, .bool z14)]
     refine oR 6 (p' := (atN 3 (ctl1 g75p17))) (eE := E9) (H' := (mkH [])) (by kernel_rfl) ?_
     refine oC (fun (x4_3 : (Int × Int)) => .tuple [.int .i64 x4_3.1, .int .i64 x4_3.2]) (atN 4 (ctl1 g75p17)) (fun x4_3 => ((64, .tuple [.int .i64 x4_3.1, .int .i64 x4_3.2]) :: E9)) (fi := 77) (args := [.str a0, .int .i64 (fW .i64 (a1 + 1)), .int .i64 8, .int .i64 3]) (by kernel_rfl) (by kernel_rfl) (fun _ => by kernel_rfl) (fun r h => g77_ok k a0 (fW .i64 (a1 + 1)) (8 : Int) (3 : Int) r h) (fun _ => by kernel_rfl) (fun x4_3 hx4_3 => ?_)
     let E10 : Env := ((11, .int .i64 x4_3.2) :: (10, .int .i64 x4_3.1) :: (66, .int .i64 x4_3.2) :: (65, .int .i64 x4_3.1) :: (60, .tuple [.int .i64 x4_3.1, .int .i64 x4_3.2]) :: (64, .tuple [.int .i64 x4_3.1, .int .i64 x4_3.2]) :: E9)
     refine oR 7 (p' := g75p19) (eE := E10) (H' := (mkH [])) (by kernel_rfl) ?_
     refine oK [10, 11] (eE := [(10, .int .i64 x4_3.1), (11, .int .i64 x4_3.2)]) (by kernel_rfl) ?_
     let E11 : Env := [(5, .int .i64 (fW .i64 (1 + x4_3.2))), (4, .int .i64 x4_3.1), (69, .int .i64 (fW .i64 (1 + x4_3.2))), (68, .int .i64 x4_3.2), (67, .int .i64 x4_3.1), (10, .int .i64 x4_3.1), (11, .int .i64 x4_3.2)]
     refine oR 8 (p' := .fin) (eE := E11) (H' := (mkH [])) (by kernel_rfl) ?_
     exact oT (r := (x4_3.1, fW .i64 (1 + x4_3.2))) (xs := [.int .i64 x4_3.1, .int .i64 (fW .i64 (1 + x4_3.2))]) (v := .tuple [.int .i64 x4_3.1, .int .i64 (fW .i64 (1 + x4_3.2))]) (by kernel_rfl) (by kernel_rfl) (by kernel_rfl) (.pures (by kernel_rfl)) (by kernel_rfl)
    ·let E12 : Env := [(73, .bool (decide (x1_3 = 120))), (72, .bool (decide (x1_3 = 120))), (71, .int .u8 x1_3), (53, .bool false), (0, .str a0), (1, .int .i64 a1), (6, .int .u8 x1_3), (53, .bool z14)]
     refine oR 6 (p' := (atN 3 (ctl1 g75p18))) (eE := E12) (H' := (mkH [])) (by kernel_rfl) ?_
     refine oJ (f := fun (z15 : Bool) => if z15 then ((g77 k a0 (fW .i64 (a1 + 3)) (16 : Int) (6 : Int)).bind fun x6_3 => jn (fun (z16 : Bool) => if z16 then (some (((-1) : Int), (0 : Int))) else (some (x6_3.1, fW .i64 (4 + x6_3.2)))) (fun j16 => if (decide (x6_3.2 = 0)) then (j16 true) else (if (decide ((a0.length : Int) ≤ fW .i64 (fW .i64 (a1 + 3) + x6_3.2))) then (j16 true) else ((nthS a0 (fW .i64 (fW .i64 (a1 + 3) + x6_3.2))).bind fun x7_17 => if (!decide (x7_17 = 125)) then (j16 true) else ((g70 k x6_3.1).bind fun x7_22 => j16 (!x7_22)))))) else (if (decide (x1_3 = 120)) then ((g77 k a0 (fW .i64 (a1 + 2)) (16 : Int) (2 : Int)).bind fun x8_3 => if (decide (x8_3.2 < 2)) then (some (((-1) : Int), (0 : Int))) else (some (x8_3.1, (4 : Int)))) else (if (decide (x1_3 = 94)) then (jn (fun (z17 : Bool) => if z17 then (some (((-1) : Int), (0 : Int))) else ((nthS a0 (fW .i64 (a1 + 2))).bind fun x11_3 => some (andI .i64 (fW .i64 x11_3) 31, (3 : Int)))) (fun j17 => if (decide ((a0.length : Int) ≤ fW .i64 (a1 + 2))) then (j17 true) else ((nthS a0 (fW .i64 (a1 + 2))).bind fun x9_9 => if (decide (64 ≤ x9_9)) then ((nthS a0 (fW .i64 (a1 + 2))).bind fun x9_15 => if (decide (x9_15 ≤ 95)) then (j17 false) else ((nthS a0 (fW .i64 (a1 + 2))).bind fun x9_22 => if (decide (97 ≤ x9_22)) then ((nthS a0 (fW .i64 (a1 + 2))).bind fun x9_28 => j17 (!(decide (x9_28 ≤ 122)))) else (j17 true))) else ((nthS a0 (fW .i64 (a1 + 2))).bind fun x9_22 => if (decide (97 ≤ x9_22)) then ((nthS a0 (fW .i64 (a1 + 2))).bind fun x9_28 => j17 (!(decide (x9_28 ≤ 122)))) else (j17 true))))) else ((g56 k a0 (fW .i64 (a1 + 1))).bind fun x10_3 => if (decide (x10_3.1 < 32)) then (some (((-1) : Int), (0 : Int))) else (some (x10_3.1, fW .i64 (1 + x10_3.2))))))) g75p20 (fun (z15 : Bool) => [(0, .str a0), (1, .int .i64 a1), (6, .int .u8 x1_3), (70, .bool z15)]) (fun (z15 : Bool) => (mkH [])) (fun z15 => ?_) (fun j15 hj15 => ?_)
     ·refine oS 70 (b := z15) (by kernel_rfl) (fun hb => ?_) (fun hb => ?_)
      ·let E13 : Env := [(90, .int .i64 (fW .i64 (a1 + 3))), (89, .int .i64 a1), (88, .str a0), (70, .bool true), (0, .str a0), (1, .int .i64 a1), (6, .int .u8 x1_3), (70, .bool z15)]
       refine oR 6 (p' := (atN 3 (ctl1 g75p21))) (eE := E13) (H' := (mkH [])) (by kernel_rfl) ?_
       refine oC (fun (x6_3 : (Int × Int)) => .tuple [.int .i64 x6_3.1, .int .i64 x6_3.2]) (atN 4 (ctl1 g75p21)) (fun x6_3 => ((91, .tuple [.int .i64 x6_3.1, .int .i64 x6_3.2]) :: E13)) (fi := 77) (args := [.str a0, .int .i64 (fW .i64 (a1 + 3)), .int .i64 16, .int .i64 6]) (by kernel_rfl) (by kernel_rfl) (fun _ => by kernel_rfl) (fun r h => g77_ok k a0 (fW .i64 (a1 + 3)) (16 : Int) (6 : Int) r h) (fun _ => by kernel_rfl) (fun x6_3 hx6_3 => ?_)
       let E14 : Env := ((13, .int .i64 x6_3.2) :: (12, .int .i64 x6_3.1) :: (93, .int .i64 x6_3.2) :: (92, .int .i64 x6_3.1) :: (87, .tuple [.int .i64 x6_3.1, .int .i64 x6_3.2]) :: (91, .tuple [.int .i64 x6_3.1, .int .i64 x6_3.2]) :: E13)
       refine oR 8 (p' := g75p23) (eE := E14) (H' := (mkH [])) (by kernel_rfl) ?_
       refine oK [0, 1, 12, 13] (eE := [(0, .str a0), (1, .int .i64 a1), (12, .int .i64 x6_3.1), (13, .int .i64 x6_3.2)]) (by kernel_rfl) ?_
       let E15 : Env := [(96, .bool (decide (x6_3.2 = 0))), (95, .bool (decide (x6_3.2 = 0))), (94, .int .i64 x6_3.2), (0, .str a0), (1, .int .i64 a1), (12, .int .i64 x6_3.1), (13, .int .i64 x6_3.2)]
       refine oR 4 (p' := (atN 3 (ctl1 g75p23))) (eE := E15) (H' := (mkH [])) (by kernel_rfl) ?_
       refine oJ (f := fun (z16 : Bool) => if z16 then (some (((-1) : Int), (0 : Int))) else (some (x6_3.1, fW .i64 (4 + x6_3.2)))) g75p25 (fun (z16 : Bool) => [(12, .int .i64 x6_3.1), (13, .int .i64 x6_3.2), (118, .bool z16)]) (fun (z16 : Bool) => (mkH [])) (fun z16 => ?_) (fun j16 hj16 => ?_)
       ·refine oS 118 (b := z16) (by kernel_rfl) (fun hb => ?_) (fun hb => ?_)
        ·let E16 : Env := [(5, .int .i64 0), (4, .int .i64 (-1)), (118, .bool true), (12, .int .i64 x6_3.1), (13, .int .i64 x6_3.2), (118, .bool z16)]
         refine oR 7 (p' := .fin) (eE := E16) (H' := (mkH [])) (by kernel_rfl) ?_
         exact oT (r := (((-1) : Int), (0 : Int))) (xs := [.int .i64 (-1), .int .i64 0]) (v := .tuple [.int .i64 (-1), .int .i64 0]) (by kernel_rfl) (by kernel_rfl) (by kernel_rfl) (.pures (by kernel_rfl)) (by kernel_rfl)
        ·let E17 : Env := [(5, .int .i64 (fW .i64 (4 + x6_3.2))), (4, .int .i64 x6_3.1), (121, .int .i64 (fW .i64 (4 + x6_3.2))), (120, .int .i64 x6_3.2), (119, .int .i64 x6_3.1), (118, .bool false), (12, .int .i64 x6_3.1), (13, .int .i64 x6_3.2), (118, .bool z16)]
         refine oR 11 (p' := .fin) (eE := E17) (H' := (mkH [])) (by kernel_rfl) ?_
         exact oT (r := (x6_3.1, fW .i64 (4 + x6_3.2))) (xs := [.int .i64 x6_3.1, .int .i64 (fW .i64 (4 + x6_3.2))]) (v := .tuple [.int .i64 x6_3.1, .int .i64 (fW .i64 (4 + x6_3.2))]) (by kernel_rfl) (by kernel_rfl) (by kernel_rfl) (.pures (by kernel_rfl)) (by kernel_rfl)
       ·refine oS 96 (b := decide (x6_3.2 = 0)) (by kernel_rfl) (fun hb => ?_) (fun hb => ?_)
        ·let E18 : Env := ((118, .bool true) :: (117, .tuple []) :: (116, .tuple []) :: (115, .tuple []) :: (114, .bool true) :: (113, .bool true) :: (112, .tuple []) :: (111, .tuple []) :: (110, .tuple []) :: (109, .tuple []) :: (108, .tuple []) :: (107, .tuple []) :: (106, .tuple []) :: (105, .bool true) :: (104, .bool true) :: (103, .tuple []) :: (102, .tuple []) :: (101, .tuple []) :: (100, .tuple []) :: (99, .tuple []) :: (98, .tuple []) :: (97, .tuple []) :: (96, .bool true) :: E15)
         refine oR 23 (p' := g75p25) (eE := E18) (H' := (mkH [])) (by kernel_rfl) ?_
         refine oK [12, 13, 118] (eE := [(12, .int .i64 x6_3.1), (13, .int .i64 x6_3.2), (118, .bool true)]) (by kernel_rfl) ?_
         exact hj16 true
        ·let E19 : Env := ((105, .bool (decide ((a0.length : Int) ≤ fW .i64 (fW .i64 (a1 + 3) + x6_3.2)))) :: (104, .bool (decide ((a0.length : Int) ≤ fW .i64 (fW .i64 (a1 + 3) + x6_3.2)))) :: (103, .bool (decide ((a0.length : Int) ≤ fW .i64 (fW .i64 (a1 + 3) + x6_3.2)))) :: (102, .int .i64 (a0.length : Int)) :: (101, .str a0) :: (100, .int .i64 (fW .i64 (fW .i64 (a1 + 3) + x6_3.2))) :: (99, .int .i64 x6_3.2) :: (98, .int .i64 (fW .i64 (a1 + 3))) :: (97, .int .i64 a1) :: (96, .bool false) :: E15)
         refine oR 9 (p' := (atN 12 (ctl1 g75p23))) (eE := E19) (H' := (mkH [])) (by kernel_rfl) ?_
         refine oS 105 (b := decide ((a0.length : Int) ≤ fW .i64 (fW .i64 (a1 + 3) + x6_3.2))) (by kernel_rfl) (fun hb => ?_) (fun hb => ?_)
         ·let E20 : Env := ((118, .bool true) :: (117, .tuple []) :: (116, .tuple []) :: (115, .tuple []) :: (114, .bool true) :: (113, .bool true) :: (112, .tuple []) :: (111, .tuple []) :: (110, .tuple []) :: (109, .tuple []) :: (108, .tuple []) :: (107, .tuple []) :: (106, .tuple []) :: (105, .bool true) :: E19)
          refine oR 14 (p' := g75p25) (eE := E20) (H' := (mkH [])) (by kernel_rfl) ?_
          refine oK [12, 13, 118] (eE := [(12, .int .i64 x6_3.1), (13, .int .i64 x6_3.2), (118, .bool true)]) (by kernel_rfl) ?_
          exact hj16 true
         ·let E21 : Env := ((110, .int .i64 (fW .i64 (fW .i64 (a1 + 3) + x6_3.2))) :: (109, .int .i64 x6_3.2) :: (108, .int .i64 (fW .i64 (a1 + 3))) :: (107, .int .i64 a1) :: (106, .str a0) :: (105, .bool false) :: E19)
          refine oR 5 (p' := (atN 17 (ctl1 g75p23))) (eE := E21) (H' := (mkH [])) (by kernel_rfl) ?_
          refine oH (fun (x7_17 : Int) => (.int .u8 x7_17, (mkH []))) (atN 18 (ctl1 g75p23)) (fun x7_17 => ((111, .int .u8 x7_17) :: E21)) (idxH (by kernel_rfl)) (fun _ => by kernel_rfl) (fun x7_17 hx7_17 => ?_)
          refine oR 3 (p' := (atN 21 (ctl1 g75p23))) (eE := ((114, .bool (!decide (x7_17 = 125))) :: (113, .bool (!decide (x7_17 = 125))) :: (112, .bool (!decide (x7_17 = 125))) :: (111, .int .u8 x7_17) :: E21)) (H' := (mkH [])) (by kernel_rfl) ?_
          refine oS 114 (b := !decide (x7_17 = 125)) (by kernel_rfl) (fun hb => ?_) (fun hb => ?_)
          ·let E22 : Env := ((118, .bool true) :: (117, .tuple []) :: (116, .tuple []) :: (115, .tuple []) :: (114, .bool true) :: (114, .bool (!decide (x7_17 = 125))) :: (113, .bool (!decide (x7_17 = 125))) :: (112, .bool (!decide (x7_17 = 125))) :: (111, .int .u8 x7_17) :: E21)
           refine oR 5 (p' := g75p25) (eE := E22) (H' := (mkH [])) (by kernel_rfl) ?_
           refine oK [12, 13, 118] (eE := [(12, .int .i64 x6_3.1), (13, .int .i64 x6_3.2), (118, .bool true)]) (by kernel_rfl) ?_
           exact hj16 true
          ·let E23 : Env := ((115, .int .i64 x6_3.1) :: (114, .bool false) :: (114, .bool (!decide (x7_17 = 125))) :: (113, .bool (!decide (x7_17 = 125))) :: (112, .bool (!decide (x7_17 = 125))) :: (111, .int .u8 x7_17) :: E21)
           refine oR 1 (p' := (atN 22 (ctl1 g75p23))) (eE := E23) (H' := (mkH [])) (by kernel_rfl) ?_
           refine oC (fun (x7_22 : Bool) => .bool x7_22) (atN 23 (ctl1 g75p23)) (fun x7_22 => ((116, .bool x7_22) :: E23)) (fi := 70) (args := [.int .i64 x6_3.1]) (by kernel_rfl) (by kernel_rfl) (fun _ => by kernel_rfl) (fun r h => g70_ok k x6_3.1 r h) (fun _ => by kernel_rfl) (fun x7_22 hx7_22 => ?_)
           refine oR 3 (p' := g75p25) (eE := ((118, .bool (!x7_22)) :: (117, .bool (!x7_22)) :: (116, .bool x7_22) :: E23)) (H' := (mkH [])) (by kernel_rfl) ?_
           refine oK [12, 13, 118] (eE := [(12, .int .i64 x6_3.1), (13, .int .i64 x6_3.2), (118, .bool (!x7_22))]) (by kernel_rfl) ?_
           exact hj16 (!x7_22)
      ·let E24 : Env := [(122, .bool (decide (x1_3 = 120))), (124, .bool (decide (x1_3 = 120))), (123, .int .u8 x1_3), (70, .bool false), (0, .str a0), (1, .int .i64 a1), (6, .int .u8 x1_3), (70, .bool z15)]
       refine oR 7 (p' := g75p24) (eE := E24) (H' := (mkH [])) (by kernel_rfl) ?_
       refine oS 122 (b := decide (x1_3 = 120)) (by kernel_rfl) (fun hb => ?_) (fun hb => ?_)
       ·refine oR 6 (p' := (atN 3 (ctl1 g75p26))) (eE := ((128, .int .i64 (fW .i64 (a1 + 2))) :: (127, .int .i64 a1) :: (126, .str a0) :: (122, .bool true) :: E24)) (H' := (mkH [])) (by kernel_rfl) ?_
        refine oC (fun (x8_3 : (Int × Int)) => .tuple [.int .i64 x8_3.1, .int .i64 x8_3.2]) (atN 4 (ctl1 g75p26)) (fun x8_3 => ((129, .tuple [.int .i64 x8_3.1, .int .i64 x8_3.2]) :: (128, .int .i64 (fW .i64 (a1 + 2))) :: (127, .int .i64 a1) :: (126, .str a0) :: (122, .bool true) :: E24)) (fi := 77) (args := [.str a0, .int .i64 (fW .i64 (a1 + 2)), .int .i64 16, .int .i64 2]) (by kernel_rfl) (by kernel_rfl) (fun _ => by kernel_rfl) (fun r h => g77_ok k a0 (fW .i64 (a1 + 2)) (16 : Int) (2 : Int) r h) (fun _ => by kernel_rfl) (fun x8_3 hx8_3 => ?_)
        let E25 : Env := ((15, .int .i64 x8_3.2) :: (14, .int .i64 x8_3.1) :: (131, .int .i64 x8_3.2) :: (130, .int .i64 x8_3.1) :: (125, .tuple [.int .i64 x8_3.1, .int .i64 x8_3.2]) :: (129, .tuple [.int .i64 x8_3.1, .int .i64 x8_3.2]) :: (128, .int .i64 (fW .i64 (a1 + 2))) :: (127, .int .i64 a1) :: (126, .str a0) :: (122, .bool true) :: E24)
        refine oR 8 (p' := g75p30) (eE := E25) (H' := (mkH [])) (by kernel_rfl) ?_
        refine oK [14, 15] (eE := [(14, .int .i64 x8_3.1), (15, .int .i64 x8_3.2)]) (by kernel_rfl) ?_
        refine oR 4 (p' := g75p32) (eE := [(133, .bool (decide (x8_3.2 < 2))), (132, .int .i64 x8_3.2), (14, .int .i64 x8_3.1), (15, .int .i64 x8_3.2)]) (H' := (mkH [])) (by kernel_rfl) ?_
        refine oS 133 (b := decide (x8_3.2 < 2)) (by kernel_rfl) (fun hb => ?_) (fun hb => ?_)
        ·let E26 : Env := [(5, .int .i64 0), (4, .int .i64 (-1)), (133, .bool true), (133, .bool (decide (x8_3.2 < 2))), (132, .int .i64 x8_3.2), (14, .int .i64 x8_3.1), (15, .int .i64 x8_3.2)]
         refine oR 7 (p' := .fin) (eE := E26) (H' := (mkH [])) (by kernel_rfl) ?_
         exact oT (r := (((-1) : Int), (0 : Int))) (xs := [.int .i64 (-1), .int .i64 0]) (v := .tuple [.int .i64 (-1), .int .i64 0]) (by kernel_rfl) (by kernel_rfl) (by kernel_rfl) (.pures (by kernel_rfl)) (by kernel_rfl)
        ·let E27 : Env := [(5, .int .i64 4), (4, .int .i64 x8_3.1), (134, .int .i64 x8_3.1), (133, .bool false), (133, .bool (decide (x8_3.2 < 2))), (132, .int .i64 x8_3.2), (14, .int .i64 x8_3.1), (15, .int .i64 x8_3.2)]
         refine oR 9 (p' := .fin) (eE := E27) (H' := (mkH [])) (by kernel_rfl) ?_
         exact oT (r := (x8_3.1, (4 : Int))) (xs := [.int .i64 x8_3.1, .int .i64 4]) (v := .tuple [.int .i64 x8_3.1, .int .i64 4]) (by kernel_rfl) (by kernel_rfl) (by kernel_rfl) (.pures (by kernel_rfl)) (by kernel_rfl)
       ·refine oR 7 (p' := g75p31) (eE := ((135, .bool (decide (x1_3 = 94))) :: (137, .bool (decide (x1_3 = 94))) :: (136, .int .u8 x1_3) :: (122, .bool false) :: E24)) (H' := (mkH [])) (by kernel_rfl) ?_
        refine oK [0, 1, 135] (eE := [(0, .str a0), (1, .int .i64 a1), (135, .bool (decide (x1_3 = 94)))]) (by kernel_rfl) ?_
        refine oS 135 (b := decide (x1_3 = 94)) (by kernel_rfl) (fun hb => ?_) (fun hb => ?_)
        ·let E28 : Env := [(143, .bool (decide ((a0.length : Int) ≤ fW .i64 (a1 + 2)))), (142, .bool (decide ((a0.length : Int) ≤ fW .i64 (a1 + 2)))), (141, .int .i64 (a0.length : Int)), (140, .str a0), (139, .int .i64 (fW .i64 (a1 + 2))), (138, .int .i64 a1), (135, .bool true), (0, .str a0), (1, .int .i64 a1), (135, .bool (decide (x1_3 = 94)))]
         refine oR 10 (p' := (atN 6 (ctl1 g75p33))) (eE := E28) (H' := (mkH [])) (by kernel_rfl) ?_
         refine oJ (f := fun (z17 : Bool) => if z17 then (some (((-1) : Int), (0 : Int))) else ((nthS a0 (fW .i64 (a1 + 2))).bind fun x11_3 => some (andI .i64 (fW .i64 x11_3) 31, (3 : Int)))) g75p37 (fun (z17 : Bool) => [(0, .str a0), (1, .int .i64 a1), (171, .bool z17)]) (fun (z17 : Bool) => (mkH [])) (fun z17 => ?_) (fun j17 hj17 => ?_)
         ·refine oS 171 (b := z17) (by kernel_rfl) (fun hb => ?_) (fun hb => ?_)
          ·let E29 : Env := [(5, .int .i64 0), (4, .int .i64 (-1)), (171, .bool true), (0, .str a0), (1, .int .i64 a1), (171, .bool z17)]
           refine oR 7 (p' := .fin) (eE := E29) (H' := (mkH [])) (by kernel_rfl) ?_
           exact oT (r := (((-1) : Int), (0 : Int))) (xs := [.int .i64 (-1), .int .i64 0]) (v := .tuple [.int .i64 (-1), .int .i64 0]) (by kernel_rfl) (by kernel_rfl) (by kernel_rfl) (.pures (by kernel_rfl)) (by kernel_rfl)
          ·let E30 : Env := [(174, .int .i64 (fW .i64 (a1 + 2))), (173, .int .i64 a1), (172, .str a0), (171, .bool false), (0, .str a0), (1, .int .i64 a1), (171, .bool z17)]
           refine oR 7 (p' := (atN 3 (ctl1 g75p40))) (eE := E30) (H' := (mkH [])) (by kernel_rfl) ?_
           refine oH (fun (x11_3 : Int) => (.int .u8 x11_3, (mkH []))) (atN 4 (ctl1 g75p40)) (fun x11_3 => ((175, .int .u8 x11_3) :: E30)) (idxH (by kernel_rfl)) (fun _ => by kernel_rfl) (fun x11_3 hx11_3 => ?_)
           let E31 : Env := ((5, .int .i64 3) :: (4, .int .i64 (andI .i64 (fW .i64 x11_3) 31)) :: (177, .int .i64 (andI .i64 (fW .i64 x11_3) 31)) :: (176, .int .i64 (fW .i64 x11_3)) :: (175, .int .u8 x11_3) :: E30)
           refine oR 6 (p' := .fin) (eE := E31) (H' := (mkH [])) (by kernel_rfl) ?_
           exact oT (r := (andI .i64 (fW .i64 x11_3) 31, (3 : Int))) (xs := [.int .i64 (andI .i64 (fW .i64 x11_3) 31), .int .i64 3]) (v := .tuple [.int .i64 (andI .i64 (fW .i64 x11_3) 31), .int .i64 3]) (by kernel_rfl) (by kernel_rfl) (by kernel_rfl) (.pures (by kernel_rfl)) (by kernel_rfl)
         ·refine oS 143 (b := decide ((a0.length : Int) ≤ fW .i64 (a1 + 2))) (by kernel_rfl) (fun hb => ?_) (fun hb => ?_)
          ·let E32 : Env := ((171, .bool true) :: (170, .tuple []) :: (169, .tuple []) :: (168, .tuple []) :: (167, .tuple []) :: (166, .tuple []) :: (165, .tuple []) :: (164, .tuple []) :: (163, .tuple []) :: (162, .tuple []) :: (161, .tuple []) :: (160, .tuple []) :: (159, .tuple []) :: (158, .tuple []) :: (157, .tuple []) :: (156, .tuple []) :: (155, .tuple []) :: (154, .tuple []) :: (153, .tuple []) :: (152, .tuple []) :: (151, .tuple []) :: (150, .tuple []) :: (149, .tuple []) :: (148, .tuple []) :: (147, .tuple []) :: (146, .tuple []) :: (145, .tuple []) :: (144, .tuple []) :: (143, .bool true) :: E28)
           refine oR 29 (p' := g75p37) (eE := E32) (H' := (mkH [])) (by kernel_rfl) ?_
           refine oK [0, 1, 171] (eE := [(0, .str a0), (1, .int .i64 a1), (171, .bool true)]) (by kernel_rfl) ?_
           exact hj17 true
          ·refine oR 3 (p' := (atN 9 (ctl1 g75p33))) (eE := ((146, .int .i64 (fW .i64 (a1 + 2))) :: (145, .int .i64 a1) :: (144, .str a0) :: (143, .bool false) :: E28)) (H' := (mkH [])) (by kernel_rfl) ?_
           refine oH (fun (x9_9 : Int) => (.int .u8 x9_9, (mkH []))) (atN 10 (ctl1 g75p33)) (fun x9_9 => ((147, .int .u8 x9_9) :: (146, .int .i64 (fW .i64 (a1 + 2))) :: (145, .int .i64 a1) :: (144, .str a0) :: (143, .bool false) :: E28)) (idxH (by kernel_rfl)) (fun _ => by kernel_rfl) (fun x9_9 hx9_9 => ?_)
           let E33 : Env := ((149, .bool (decide (64 ≤ x9_9))) :: (148, .bool (decide (64 ≤ x9_9))) :: (147, .int .u8 x9_9) :: (146, .int .i64 (fW .i64 (a1 + 2))) :: (145, .int .i64 a1) :: (144, .str a0) :: (143, .bool false) :: E28)
           refine oR 2 (p' := (atN 12 (ctl1 g75p33))) (eE := E33) (H' := (mkH [])) (by kernel_rfl) ?_
           refine oS 149 (b := decide (64 ≤ x9_9)) (by kernel_rfl) (fun hb => ?_) (fun hb => ?_)
           ·refine oR 3 (p' := (atN 15 (ctl1 g75p33))) (eE := ((152, .int .i64 (fW .i64 (a1 + 2))) :: (151, .int .i64 a1) :: (150, .str a0) :: (149, .bool true) :: E33)) (H' := (mkH [])) (by kernel_rfl) ?_
            refine oH (fun (x9_15 : Int) => (.int .u8 x9_15, (mkH []))) (atN 16 (ctl1 g75p33)) (fun x9_15 => ((153, .int .u8 x9_15) :: (152, .int .i64 (fW .i64 (a1 + 2))) :: (151, .int .i64 a1) :: (150, .str a0) :: (149, .bool true) :: E33)) (idxH (by kernel_rfl)) (fun _ => by kernel_rfl) (fun x9_15 hx9_15 => ?_)
            let E34 : Env := ((156, .bool (decide (x9_15 ≤ 95))) :: (155, .bool (decide (x9_15 ≤ 95))) :: (154, .bool (decide (x9_15 ≤ 95))) :: (153, .int .u8 x9_15) :: (152, .int .i64 (fW .i64 (a1 + 2))) :: (151, .int .i64 a1) :: (150, .str a0) :: (149, .bool true) :: E33)
            refine oR 3 (p' := (atN 19 (ctl1 g75p33))) (eE := E34) (H' := (mkH [])) (by kernel_rfl) ?_
            refine oS 156 (b := decide (x9_15 ≤ 95)) (by kernel_rfl) (fun hb => ?_) (fun hb => ?_)
            ·let E35 : Env := ((171, .bool false) :: (170, .bool false) :: (169, .bool true) :: (168, .tuple []) :: (167, .tuple []) :: (166, .tuple []) :: (165, .tuple []) :: (164, .tuple []) :: (163, .tuple []) :: (162, .tuple []) :: (161, .tuple []) :: (160, .tuple []) :: (159, .tuple []) :: (158, .tuple []) :: (157, .tuple []) :: (156, .bool true) :: E34)
             refine oR 16 (p' := g75p37) (eE := E35) (H' := (mkH [])) (by kernel_rfl) ?_
             refine oK [0, 1, 171] (eE := [(0, .str a0), (1, .int .i64 a1), (171, .bool false)]) (by kernel_rfl) ?_
             exact hj17 false
            ·refine oR 3 (p' := (atN 22 (ctl1 g75p33))) (eE := ((159, .int .i64 (fW .i64 (a1 + 2))) :: (158, .int .i64 a1) :: (157, .str a0) :: (156, .bool false) :: E34)) (H' := (mkH [])) (by kernel_rfl) ?_
             refine oH (fun (x9_22 : Int) => (.int .u8 x9_22, (mkH []))) (atN 23 (ctl1 g75p33)) (fun x9_22 => ((160, .int .u8 x9_22) :: (159, .int .i64 (fW .i64 (a1 + 2))) :: (158, .int .i64 a1) :: (157, .str a0) :: (156, .bool false) :: E34)) (idxH (by kernel_rfl)) (fun _ => by kernel_rfl) (fun x9_22 hx9_22 => ?_)
             let E36 : Env := ((162, .bool (decide (97 ≤ x9_22))) :: (161, .bool (decide (97 ≤ x9_22))) :: (160, .int .u8 x9_22) :: (159, .int .i64 (fW .i64 (a1 + 2))) :: (158, .int .i64 a1) :: (157, .str a0) :: (156, .bool false) :: E34)
             refine oR 2 (p' := (atN 25 (ctl1 g75p33))) (eE := E36) (H' := (mkH [])) (by kernel_rfl) ?_
             refine oS 162 (b := decide (97 ≤ x9_22)) (by kernel_rfl) (fun hb => ?_) (fun hb => ?_)
             ·refine oR 3 (p' := (atN 28 (ctl1 g75p33))) (eE := ((165, .int .i64 (fW .i64 (a1 + 2))) :: (164, .int .i64 a1) :: (163, .str a0) :: (162, .bool true) :: E36)) (H' := (mkH [])) (by kernel_rfl) ?_
              refine oH (fun (x9_28 : Int) => (.int .u8 x9_28, (mkH []))) (atN 29 (ctl1 g75p33)) (fun x9_28 => ((166, .int .u8 x9_28) :: (165, .int .i64 (fW .i64 (a1 + 2))) :: (164, .int .i64 a1) :: (163, .str a0) :: (162, .bool true) :: E36)) (idxH (by kernel_rfl)) (fun _ => by kernel_rfl) (fun x9_28 hx9_28 => ?_)
              let E37 : Env := ((171, .bool (!(decide (x9_28 ≤ 122)))) :: (170, .bool (!(decide (x9_28 ≤ 122)))) :: (169, .bool (decide (x9_28 ≤ 122))) :: (168, .bool (decide (x9_28 ≤ 122))) :: (167, .bool (decide (x9_28 ≤ 122))) :: (166, .int .u8 x9_28) :: (165, .int .i64 (fW .i64 (a1 + 2))) :: (164, .int .i64 a1) :: (163, .str a0) :: (162, .bool true) :: E36)
              refine oR 6 (p' := g75p37) (eE := E37) (H' := (mkH [])) (by kernel_rfl) ?_
              refine oK [0, 1, 171] (eE := [(0, .str a0), (1, .int .i64 a1), (171, .bool (!(decide (x9_28 ≤ 122))))]) (by kernel_rfl) ?_
              exact hj17 (!(decide (x9_28 ≤ 122)))
             ·let E38 : Env := ((171, .bool true) :: (170, .bool true) :: (169, .bool false) :: (168, .bool false) :: (167, .tuple []) :: (166, .tuple []) :: (165, .tuple []) :: (164, .tuple []) :: (163, .tuple []) :: (162, .bool false) :: E36)
              refine oR 10 (p' := g75p37) (eE := E38) (H' := (mkH [])) (by kernel_rfl) ?_
              refine oK [0, 1, 171] (eE := [(0, .str a0), (1, .int .i64 a1), (171, .bool true)]) (by kernel_rfl) ?_
              exact hj17 true
           ·let E39 : Env := ((159, .int .i64 (fW .i64 (a1 + 2))) :: (158, .int .i64 a1) :: (157, .str a0) :: (156, .bool false) :: (155, .bool false) :: (154, .tuple []) :: (153, .tuple []) :: (152, .tuple []) :: (151, .tuple []) :: (150, .tuple []) :: (149, .bool false) :: E33)
            refine oR 10 (p' := (atN 22 (ctl1 g75p33))) (eE := E39) (H' := (mkH [])) (by kernel_rfl) ?_
            refine oH (fun (x9_22 : Int) => (.int .u8 x9_22, (mkH []))) (atN 23 (ctl1 g75p33)) (fun x9_22 => ((160, .int .u8 x9_22) :: E39)) (idxH (by kernel_rfl)) (fun _ => by kernel_rfl) (fun x9_22 hx9_22 => ?_)
            refine oR 2 (p' := (atN 25 (ctl1 g75p33))) (eE := ((162, .bool (decide (97 ≤ x9_22))) :: (161, .bool (decide (97 ≤ x9_22))) :: (160, .int .u8 x9_22) :: E39)) (H' := (mkH [])) (by kernel_rfl) ?_
            refine oS 162 (b := decide (97 ≤ x9_22)) (by kernel_rfl) (fun hb => ?_) (fun hb => ?_)
            ·let E40 : Env := ((165, .int .i64 (fW .i64 (a1 + 2))) :: (164, .int .i64 a1) :: (163, .str a0) :: (162, .bool true) :: (162, .bool (decide (97 ≤ x9_22))) :: (161, .bool (decide (97 ≤ x9_22))) :: (160, .int .u8 x9_22) :: E39)
             refine oR 3 (p' := (atN 28 (ctl1 g75p33))) (eE := E40) (H' := (mkH [])) (by kernel_rfl) ?_
             refine oH (fun (x9_28 : Int) => (.int .u8 x9_28, (mkH []))) (atN 29 (ctl1 g75p33)) (fun x9_28 => ((166, .int .u8 x9_28) :: E40)) (idxH (by kernel_rfl)) (fun _ => by kernel_rfl) (fun x9_28 hx9_28 => ?_)
             let E41 : Env := ((171, .bool (!(decide (x9_28 ≤ 122)))) :: (170, .bool (!(decide (x9_28 ≤ 122)))) :: (169, .bool (decide (x9_28 ≤ 122))) :: (168, .bool (decide (x9_28 ≤ 122))) :: (167, .bool (decide (x9_28 ≤ 122))) :: (166, .int .u8 x9_28) :: E40)
             refine oR 6 (p' := g75p37) (eE := E41) (H' := (mkH [])) (by kernel_rfl) ?_
             refine oK [0, 1, 171] (eE := [(0, .str a0), (1, .int .i64 a1), (171, .bool (!(decide (x9_28 ≤ 122))))]) (by kernel_rfl) ?_
             exact hj17 (!(decide (x9_28 ≤ 122)))
            ·let E42 : Env := ((171, .bool true) :: (170, .bool true) :: (169, .bool false) :: (168, .bool false) :: (167, .tuple []) :: (166, .tuple []) :: (165, .tuple []) :: (164, .tuple []) :: (163, .tuple []) :: (162, .bool false) :: (162, .bool (decide (97 ≤ x9_22))) :: (161, .bool (decide (97 ≤ x9_22))) :: (160, .int .u8 x9_22) :: E39)
             refine oR 10 (p' := g75p37) (eE := E42) (H' := (mkH [])) (by kernel_rfl) ?_
             refine oK [0, 1, 171] (eE := [(0, .str a0), (1, .int .i64 a1), (171, .bool true)]) (by kernel_rfl) ?_
             exact hj17 true
        ·let E43 : Env := [(181, .int .i64 (fW .i64 (a1 + 1))), (180, .int .i64 a1), (179, .str a0), (135, .bool false), (0, .str a0), (1, .int .i64 a1), (135, .bool (decide (x1_3 = 94)))]
         refine oR 7 (p' := (atN 3 (ctl1 g75p34))) (eE := E43) (H' := (mkH [])) (by kernel_rfl) ?_
         refine oC (fun (x10_3 : (Int × Int)) => .tuple [.int .i64 x10_3.1, .int .i64 x10_3.2]) (atN 4 (ctl1 g75p34)) (fun x10_3 => ((182, .tuple [.int .i64 x10_3.1, .int .i64 x10_3.2]) :: E43)) (fi := 56) (args := [.str a0, .int .i64 (fW .i64 (a1 + 1))]) (by kernel_rfl) (by kernel_rfl) (fun _ => by kernel_rfl) (fun r h => g56_ok k a0 (fW .i64 (a1 + 1)) r h) (fun _ => by kernel_rfl) (fun x10_3 hx10_3 => ?_)
         let E44 : Env := ((17, .int .i64 x10_3.2) :: (16, .int .i64 x10_3.1) :: (184, .int .i64 x10_3.2) :: (183, .int .i64 x10_3.1) :: (178, .tuple [.int .i64 x10_3.1, .int .i64 x10_3.2]) :: (182, .tuple [.int .i64 x10_3.1, .int .i64 x10_3.2]) :: E43)
         refine oR 8 (p' := g75p38) (eE := E44) (H' := (mkH [])) (by kernel_rfl) ?_
         refine oK [16, 17] (eE := [(16, .int .i64 x10_3.1), (17, .int .i64 x10_3.2)]) (by kernel_rfl) ?_
         refine oR 4 (p' := g75p41) (eE := [(186, .bool (decide (x10_3.1 < 32))), (185, .int .i64 x10_3.1), (16, .int .i64 x10_3.1), (17, .int .i64 x10_3.2)]) (H' := (mkH [])) (by kernel_rfl) ?_
         refine oS 186 (b := decide (x10_3.1 < 32)) (by kernel_rfl) (fun hb => ?_) (fun hb => ?_)
         ·let E45 : Env := [(5, .int .i64 0), (4, .int .i64 (-1)), (186, .bool true), (186, .bool (decide (x10_3.1 < 32))), (185, .int .i64 x10_3.1), (16, .int .i64 x10_3.1), (17, .int .i64 x10_3.2)]
          refine oR 7 (p' := .fin) (eE := E45) (H' := (mkH [])) (by kernel_rfl) ?_
          exact oT (r := (((-1) : Int), (0 : Int))) (xs := [.int .i64 (-1), .int .i64 0]) (v := .tuple [.int .i64 (-1), .int .i64 0]) (by kernel_rfl) (by kernel_rfl) (by kernel_rfl) (.pures (by kernel_rfl)) (by kernel_rfl)
         ·let E46 : Env := [(5, .int .i64 (fW .i64 (1 + x10_3.2))), (4, .int .i64 x10_3.1), (189, .int .i64 (fW .i64 (1 + x10_3.2))), (188, .int .i64 x10_3.2), (187, .int .i64 x10_3.1), (186, .bool false), (186, .bool (decide (x10_3.1 < 32))), (185, .int .i64 x10_3.1), (16, .int .i64 x10_3.1), (17, .int .i64 x10_3.2)]
          refine oR 11 (p' := .fin) (eE := E46) (H' := (mkH [])) (by kernel_rfl) ?_
          exact oT (r := (x10_3.1, fW .i64 (1 + x10_3.2))) (xs := [.int .i64 x10_3.1, .int .i64 (fW .i64 (1 + x10_3.2))]) (v := .tuple [.int .i64 x10_3.1, .int .i64 (fW .i64 (1 + x10_3.2))]) (by kernel_rfl) (by kernel_rfl) (by kernel_rfl) (.pures (by kernel_rfl)) (by kernel_rfl)
     ·refine oS 73 (b := decide (x1_3 = 120)) (by kernel_rfl) (fun hb => ?_) (fun hb => ?_)
      ·let E47 : Env := ((80, .bool (decide (fW .i64 (a1 + 2) < (a0.length : Int)))) :: (79, .bool (decide (fW .i64 (a1 + 2) < (a0.length : Int)))) :: (78, .bool (decide (fW .i64 (a1 + 2) < (a0.length : Int)))) :: (77, .int .i64 (a0.length : Int)) :: (76, .str a0) :: (75, .int .i64 (fW .i64 (a1 + 2))) :: (74, .int .i64 a1) :: (73, .bool true) :: E12)
       refine oR 7 (p' := (atN 10 (ctl1 g75p18))) (eE := E47) (H' := (mkH [])) (by kernel_rfl) ?_
       refine oS 80 (b := decide (fW .i64 (a1 + 2) < (a0.length : Int))) (by kernel_rfl) (fun hb => ?_) (fun hb => ?_)
       ·refine oR 3 (p' := (atN 13 (ctl1 g75p18))) (eE := ((83, .int .i64 (fW .i64 (a1 + 2))) :: (82, .int .i64 a1) :: (81, .str a0) :: (80, .bool true) :: E47)) (H' := (mkH [])) (by kernel_rfl) ?_
        refine oH (fun (x5_13 : Int) => (.int .u8 x5_13, (mkH []))) (atN 14 (ctl1 g75p18)) (fun x5_13 => ((84, .int .u8 x5_13) :: (83, .int .i64 (fW .i64 (a1 + 2))) :: (82, .int .i64 a1) :: (81, .str a0) :: (80, .bool true) :: E47)) (idxH (by kernel_rfl)) (fun _ => by kernel_rfl) (fun x5_13 hx5_13 => ?_)
        let E48 : Env := ((70, .bool (decide (x5_13 = 123))) :: (86, .bool (decide (x5_13 = 123))) :: (85, .bool (decide (x5_13 = 123))) :: (84, .int .u8 x5_13) :: (83, .int .i64 (fW .i64 (a1 + 2))) :: (82, .int .i64 a1) :: (81, .str a0) :: (80, .bool true) :: E47)
        refine oR 4 (p' := g75p20) (eE := E48) (H' := (mkH [])) (by kernel_rfl) ?_
        refine oK [0, 1, 6, 70] (eE := [(0, .str a0), (1, .int .i64 a1), (6, .int .u8 x1_3), (70, .bool (decide (x5_13 = 123)))]) (by kernel_rfl) ?_
        exact hj15 (decide (x5_13 = 123))
       ·let E49 : Env := ((70, .bool false) :: (86, .bool false) :: (85, .tuple []) :: (84, .tuple []) :: (83, .tuple []) :: (82, .tuple []) :: (81, .tuple []) :: (80, .bool false) :: E47)
        refine oR 8 (p' := g75p20) (eE := E49) (H' := (mkH [])) (by kernel_rfl) ?_
        refine oK [0, 1, 6, 70] (eE := [(0, .str a0), (1, .int .i64 a1), (6, .int .u8 x1_3), (70, .bool false)]) (by kernel_rfl) ?_
        exact hj15 false
      ·let E50 : Env := ((70, .bool false) :: (86, .bool false) :: (85, .tuple []) :: (84, .tuple []) :: (83, .tuple []) :: (82, .tuple []) :: (81, .tuple []) :: (80, .bool false) :: (79, .bool false) :: (78, .tuple []) :: (77, .tuple []) :: (76, .tuple []) :: (75, .tuple []) :: (74, .tuple []) :: (73, .bool false) :: E12)
       refine oR 15 (p' := g75p20) (eE := E50) (H' := (mkH [])) (by kernel_rfl) ?_
       refine oK [0, 1, 6, 70] (eE := [(0, .str a0), (1, .int .i64 a1), (6, .int .u8 x1_3), (70, .bool false)]) (by kernel_rfl) ?_
       exact hj15 false
   ·refine oS 56 (b := decide (48 ≤ x1_3)) (by kernel_rfl) (fun hb => ?_) (fun hb => ?_)
    ·let E51 : Env := ((53, .bool (decide (x1_3 ≤ 55))) :: (59, .bool (decide (x1_3 ≤ 55))) :: (58, .bool (decide (x1_3 ≤ 55))) :: (57, .int .u8 x1_3) :: (56, .bool true) :: (56, .bool (decide (48 ≤ x1_3))) :: (55, .bool (decide (48 ≤ x1_3))) :: (54, .int .u8 x1_3) :: (41, .bool false) :: E5)
     refine oR 5 (p' := g75p14) (eE := E51) (H' := (mkH [])) (by kernel_rfl) ?_
     refine oK [0, 1, 6, 53] (eE := [(0, .str a0), (1, .int .i64 a1), (6, .int .u8 x1_3), (53, .bool (decide (x1_3 ≤ 55)))]) (by kernel_rfl) ?_
     exact hj14 (decide (x1_3 ≤ 55))
    ·let E52 : Env := ((53, .bool false) :: (59, .bool false) :: (58, .tuple []) :: (57, .tuple []) :: (56, .bool false) :: (56, .bool (decide (48 ≤ x1_3))) :: (55, .bool (decide (48 ≤ x1_3))) :: (54, .int .u8 x1_3) :: (41, .bool false) :: E5)
     refine oR 5 (p' := g75p14) (eE := E52) (H' := (mkH [])) (by kernel_rfl) ?_
     refine oK [0, 1, 6, 53] (eE := [(0, .str a0), (1, .int .i64 a1), (6, .int .u8 x1_3), (53, .bool false)]) (by kernel_rfl) ?_
     exact hj14 false
def g75 (k : Nat) (a0 : (List Nat)) (a1 : Int) : Option (Int × Int) :=
 jn (fun (z12 : Bool) => if z12 then (some (((-1) : Int), (0 : Int))) else ((nthS a0 (fW .i64 (a1 + 1))).bind fun x1_3 => g75_l13 k a0 a1 x1_3 k 0)) (fun j12 => if (decide (a1 < 0)) then (j12 true) else (if (decide (fW .i64 ((a0.length : Int) - 1) ≤ a1)) then (j12 true) else ((nthS a0 a1).bind fun x0_12 => j12 (!decide (x0_12 = 92)))))
theorem g75_ok (k : Nat) (a0 : (List Nat)) (a1 : Int) (r : (Int × Int)) (h : g75 k a0 a1 = some r) : PureOk Try.prog 75 [.str a0, .int .i64 a1] (.tuple [.int .i64 r.1, .int .i64 r.2]) := by
 refine pure_of X75 (fun _ => rfl) Try.func75 (by decide +kernel) (by kernel_rfl) (t := g75 k a0 a1) ?_ h
 unfold g75
 refine oE (eE := [(0, .str a0), (1, .int .i64 a1)]) (by kernel_rfl) ?_
 let E1 : Env := [(20, .bool (decide (a1 < 0))), (19, .bool (decide (a1 < 0))), (18, .int .i64 a1), (5, .int .i64 0), (4, .int .i64 0), (0, .str a0), (1, .int .i64 a1)]
 refine oR 11 (p' := (atN 3 (ctl1 g75p1))) (eE := E1) (H' := (mkH [])) (by kernel_rfl) ?_
 refine oJ (f := fun (z12 : Bool) => if z12 then (some (((-1) : Int), (0 : Int))) else ((nthS a0 (fW .i64 (a1 + 1))).bind fun x1_3 => g75_l13 k a0 a1 x1_3 k 0)) g75p2 (fun (z12 : Bool) => [(0, .str a0), (1, .int .i64 a1), (32, .bool z12)]) (fun (z12 : Bool) => (mkH [])) (fun z12 => ?_) (fun j12 hj12 => ?_)
 ·refine oS 32 (b := z12) (by kernel_rfl) (fun hb => ?_) (fun hb => ?_)
  ·let E2 : Env := [(5, .int .i64 0), (4, .int .i64 (-1)), (32, .bool true), (0, .str a0), (1, .int .i64 a1), (32, .bool z12)]
   refine oR 7 (p' := .fin) (eE := E2) (H' := (mkH [])) (by kernel_rfl) ?_
   exact oT (r := (((-1) : Int), (0 : Int))) (xs := [.int .i64 (-1), .int .i64 0]) (v := .tuple [.int .i64 (-1), .int .i64 0]) (by kernel_rfl) (by kernel_rfl) (by kernel_rfl) (.pures (by kernel_rfl)) (by kernel_rfl)
  ·let E3 : Env := [(35, .int .i64 (fW .i64 (a1 + 1))), (34, .int .i64 a1), (33, .str a0), (32, .bool false), (0, .str a0), (1, .int .i64 a1), (32, .bool z12)]
   refine oR 7 (p' := (atN 3 (ctl1 g75p4))) (eE := E3) (H' := (mkH [])) (by kernel_rfl) ?_
   refine oH (fun (x1_3 : Int) => (.int .u8 x1_3, (mkH []))) (atN 4 (ctl1 g75p4)) (fun x1_3 => ((36, .int .u8 x1_3) :: E3)) (idxH (by kernel_rfl)) (fun _ => by kernel_rfl) (fun x1_3 hx1_3 => ?_)
   refine oR 5 (p' := (atN 1 (ctl1 g75p6))) (eE := ((37, .slice 0 9 0 9 1) :: (6, .int .u8 x1_3) :: (36, .int .u8 x1_3) :: E3)) (H' := (mkH [⟨[.int .i64 8, .int .i64 127, .int .i64 27, .int .i64 12, .int .i64 10, .int .i64 13, .int .i64 32, .int .i64 9, .int .i64 11], 0, false⟩])) (by kernel_rfl) ?_
   refine ok_frz [⟨[.int .i64 8, .int .i64 127, .int .i64 27, .int .i64 12, .int .i64 10, .int .i64 13, .int .i64 32, .int .i64 9, .int .i64 11], 0, false⟩] 37 0 9 1 0 [.int .i64 8, .int .i64 127, .int .i64 27, .int .i64 12, .int .i64 10, .int .i64 13, .int .i64 32, .int .i64 9, .int .i64 11] [0, 1, 6, 32, 33, 34, 35, 36] (env0 := [(0, .str a0), (1, .int .i64 a1), (6, .int .u8 x1_3), (32, .bool false), (33, .str a0), (34, .int .i64 a1), (35, .int .i64 (fW .i64 (a1 + 1))), (36, .int .u8 x1_3)]) (by kernel_rfl) rfl (.inl (by kernel_rfl)) rfl rfl (by decide) (by kernel_rfl) (by kernel_rfl) (by kernel_rfl) ⟨.inl rfl, trivial⟩ ?_
   refine oE (eE := [(37, .vec (g75c0).length 1 ((g75c0).flatMap e3)), (0, .str a0), (1, .int .i64 a1), (6, .int .u8 x1_3), (32, .bool false), (33, .str a0), (34, .int .i64 a1), (35, .int .i64 (fW .i64 (a1 + 1))), (36, .int .u8 x1_3)]) (by kernel_rfl) ?_
   refine ok_heap (H' := (mkH [⟨[], 0, false⟩])) (by kernel_rfl) ?_
   let E4 : Env := [(9, .int .i64 0), (8, .vec (g75c0).length 1 ((g75c0).flatMap e3)), (7, .str g75c1), (37, .vec (g75c0).length 1 ((g75c0).flatMap e3)), (0, .str a0), (1, .int .i64 a1), (6, .int .u8 x1_3), (32, .bool false), (33, .str a0), (34, .int .i64 a1), (35, .int .i64 (fW .i64 (a1 + 1))), (36, .int .u8 x1_3)]
   refine oR 10 (p' := g75p8) (eE := E4) (H' := (mkH [⟨[], 0, false⟩])) (by kernel_rfl) ?_
   refine oK [0, 1, 6, 7, 8, 9] (eE := [(0, .str a0), (1, .int .i64 a1), (6, .int .u8 x1_3), (7, .str g75c1), (8, .vec (g75c0).length 1 ((g75c0).flatMap e3)), (9, .int .i64 0)]) (by kernel_rfl) ?_
   refine ok_cut [] [⟨[], 0, false⟩] (by kernel_rfl) rfl (by kernel_rfl) trivial ?_
   exact (g75_l13_ok k a0 a1 x1_3 k) 0
 ·refine oS 20 (b := decide (a1 < 0)) (by kernel_rfl) (fun hb => ?_) (fun hb => ?_)
  ·let E53 : Env := ((32, .bool true) :: (31, .tuple []) :: (30, .tuple []) :: (29, .tuple []) :: (28, .tuple []) :: (27, .bool true) :: (26, .bool true) :: (25, .tuple []) :: (24, .tuple []) :: (23, .tuple []) :: (22, .tuple []) :: (21, .tuple []) :: (20, .bool true) :: E1)
   refine oR 13 (p' := g75p2) (eE := E53) (H' := (mkH [])) (by kernel_rfl) ?_
   refine oK [0, 1, 32] (eE := [(0, .str a0), (1, .int .i64 a1), (32, .bool true)]) (by kernel_rfl) ?_
   exact hj12 true
  ·let E54 : Env := ((27, .bool (decide (fW .i64 ((a0.length : Int) - 1) ≤ a1))) :: (26, .bool (decide (fW .i64 ((a0.length : Int) - 1) ≤ a1))) :: (25, .bool (decide (fW .i64 ((a0.length : Int) - 1) ≤ a1))) :: (24, .int .i64 (fW .i64 ((a0.length : Int) - 1))) :: (23, .int .i64 (a0.length : Int)) :: (22, .str a0) :: (21, .int .i64 a1) :: (20, .bool false) :: E1)
   refine oR 7 (p' := (atN 10 (ctl1 g75p1))) (eE := E54) (H' := (mkH [])) (by kernel_rfl) ?_
   refine oS 27 (b := decide (fW .i64 ((a0.length : Int) - 1) ≤ a1)) (by kernel_rfl) (fun hb => ?_) (fun hb => ?_)
   ·let E55 : Env := ((32, .bool true) :: (31, .tuple []) :: (30, .tuple []) :: (29, .tuple []) :: (28, .tuple []) :: (27, .bool true) :: E54)
    refine oR 6 (p' := g75p2) (eE := E55) (H' := (mkH [])) (by kernel_rfl) ?_
    refine oK [0, 1, 32] (eE := [(0, .str a0), (1, .int .i64 a1), (32, .bool true)]) (by kernel_rfl) ?_
    exact hj12 true
   ·refine oR 2 (p' := (atN 12 (ctl1 g75p1))) (eE := ((29, .int .i64 a1) :: (28, .str a0) :: (27, .bool false) :: E54)) (H' := (mkH [])) (by kernel_rfl) ?_
    refine oH (fun (x0_12 : Int) => (.int .u8 x0_12, (mkH []))) (atN 13 (ctl1 g75p1)) (fun x0_12 => ((30, .int .u8 x0_12) :: (29, .int .i64 a1) :: (28, .str a0) :: (27, .bool false) :: E54)) (idxH (by kernel_rfl)) (fun _ => by kernel_rfl) (fun x0_12 hx0_12 => ?_)
    let E56 : Env := ((32, .bool (!decide (x0_12 = 92))) :: (31, .bool (!decide (x0_12 = 92))) :: (30, .int .u8 x0_12) :: (29, .int .i64 a1) :: (28, .str a0) :: (27, .bool false) :: E54)
    refine oR 3 (p' := g75p2) (eE := E56) (H' := (mkH [])) (by kernel_rfl) ?_
    refine oK [0, 1, 32] (eE := [(0, .str a0), (1, .int .i64 a1), (32, .bool (!decide (x0_12 = 92)))]) (by kernel_rfl) ?_
    exact hj12 (!decide (x0_12 = 92))
end
end Go.Proofs.Ytbmijiibfaacmaa.Am
set_option maxRecDepth 100000
set_option linter.unusedVariables false
set_option linter.unusedSimpArgs false
namespace Go.Proofs.Ytbmijiibfaacmaa.Am
open Go
def digV (b : Nat) : Nat → Nat → List Nat → Nat × Nat
 | 0, v, _ => (v, 0)
 | _ + 1, v, [] => (v, 0)
 | m + 1, v, c :: r => if dgN c < b then ((digV b m (v * b + dgN c) r).1, (digV b m (v * b + dgN c) r).2 + 1) else (v, 0)
def hexBr (q : List Nat) : Int × Int := if (digV 16 6 0 q).2 = 0 then (-1, 0) else match q.drop (digV 16 6 0 q).2 with | c :: _ => if c = 125 ∧ cpN (digV 16 6 0 q).1 = true then (((digV 16 6 0 q).1 : Int), ((4 + (digV 16 6 0 q).2 : Nat) : Int)) else (-1, 0) | [] => (-1, 0)
def hex2 (r : List Nat) : Int × Int := if (digV 16 2 0 r).2 < 2 then (-1, 0) else (((digV 16 2 0 r).1 : Int), 4)
def hexN (r : List Nat) : Int × Int := match r with | c :: q => if c = 123 then hexBr q else hex2 (c :: q) | [] => (-1, 0)
def ctlN (r : List Nat) : Int × Int := match r with | c :: _ => if c < 64 ∨ 95 < c ∧ (c < 97 ∨ 122 < c) then (-1, 0) else (((c % 32 : Nat) : Int), 3) | [] => (-1, 0)
def nameN (c : Nat) : Nat := if c = 98 then 8 else if c = 100 then 127 else if c = 101 then 27 else if c = 102 then 12 else if c = 110 then 10 else if c = 114 then 13 else if c = 115 then 32 else if c = 116 then 9 else if c = 118 then 11 else 0
def uniN (s : List Nat) : Int × Int := if (dec s).1 < 32 then (-1, 0) else ((dec s).1, (dec s).2 + 1)
def octN (s : List Nat) : Int × Int := (((digV 8 3 0 s).1 : Int), ((1 + (digV 8 3 0 s).2 : Nat) : Int))
def escB (c : Nat) (r : List Nat) : Int × Int := if c = 120 then hexN r else if c = 94 then ctlN r else if 48 ≤ c ∧ c ≤ 55 then octN (c :: r) else if nameN c = 0 then uniN (c :: r) else ((nameN c : Int), 2)
def escN (s : List Nat) : Int × Int := match s with | a :: c :: r => if a = 92 then escB c r else (-1, 0) | _ => (-1, 0)
theorem digV_le (b : Nat) : ∀ (m v : Nat) (s : List Nat), (digV b m v s).2 ≤ m ∧ (digV b m v s).2 ≤ s.length
 | 0, v, s => ⟨Nat.le_refl _, Nat.zero_le _⟩
 | m + 1, v, [] => ⟨Nat.zero_le _, Nat.le_refl _⟩
 | m + 1, v, c :: r => by
  have := digV_le b m (v * b + dgN c) r
  simp only [digV]
  split
  ·simp only [List.length_cons]; omega
  ·exact ⟨Nat.zero_le _, Nat.zero_le _⟩
theorem and31 {c : Nat} (h : c < 256) : andI .u8 (c : Int) 31 = ((c % 32 : Nat) : Int) ∧ andI .i64 (c : Int) 31 = ((c % 32 : Nat) : Int) := by
 have w := byteAll (f := fun c => decide (andI .u8 (c : Int) 31 = ((c % 32 : Nat) : Int)) && decide (andI .i64 (c : Int) 31 = ((c % 32 : Nat) : Int))) (by decide +kernel) h
 simpa using w
end Go.Proofs.Ytbmijiibfaacmaa.Am
set_option maxRecDepth 100000
set_option linter.unusedVariables false
set_option linter.unusedSimpArgs false
namespace Go.Proofs.Ytbmijiibfaacmaa.Am
open Go
def skipN : List Nat → Nat
 | [] => 0
 | c :: r => if blkN c then skipN r + 1 else 0
def innN : List Nat → Nat
 | [] => 0
 | c :: r => if inrN c then innN r + 1 else 0
def shwN (s : List Nat) : Nat := if (dec s).1 < 32 ∨ (dec s).1 = 127 then 0 else (dec s).2.toNat
def bmp (n m : Nat) : Nat := if m = 0 then 0 else n + m
def quoN (q : Nat) : Nat → List Nat → Nat
 | 0, _ => 0
 | _ + 1, [] => 0
 | f + 1, c :: r => if c = q then 1 else if c = 92 then bmp (1 + shwN r) (if shwN r = 0 then 0 else quoN q f (r.drop (shwN r))) else bmp (shwN (c :: r)) (if shwN (c :: r) = 0 then 0 else quoN q f ((c :: r).drop (shwN (c :: r))))
def qtdN (s : List Nat) : Nat := match s with | q :: r => bmp 1 (quoN q r.length r) | [] => 0
def chrN (s : List Nat) : Nat := match s with | _ :: c :: r => if c = 92 then (if 0 < (escN (c :: r)).2 then (escN (c :: r)).2.toNat + 1 else 0) else if shwN (c :: r) ≠ 0 ∧ c ≠ 32 then shwN (c :: r) + 1 else 0 | _ => 0
def endN (s : List Nat) (n kind : Nat) : Nat × Nat := match s.drop n with | c :: _ => if inrN c then (0, 0) else (n, kind) | [] => (n, kind)
def hashN (s : List Nat) (w : Nat) : Bool := match s.drop w with | c :: _ => decide (c = 35) && (decide ((frontN s).1 = 0) || decide (w < (frontN s).1)) | [] => false
def numN (s : List Nat) : Nat × Nat := if partN s = 0 then (if hashN s (wholeN s) then (0, 0) else endN s (wholeN s) 3) else endN s (partN s) 4
def lineN : List Nat → Nat
 | [] => 0
 | c :: r => if c = 10 then 0 else lineN r + 1
def trmN (s : List Nat) : Nat → Nat
 | 0 => 0
 | i + 1 => match s.drop i with | c :: _ => if blkN c then trmN s i else i + 1 | [] => i + 1
def cmtN (s : List Nat) : Nat := trmN s (lineN s)
def mac1 (n : Nat) (t : List Nat) : Nat := match t with | c :: _ => if begN c = 1 ∨ begN c = 2 then n + innN t else 0 | [] => 0
def macN (s : List Nat) : Nat := match s with | _ :: c :: r => if c = 63 then mac1 2 r else mac1 1 (c :: r) | _ => 0
def dotN (r : List Nat) : Bool := match r with | [] => true | c :: _ => blkN c || decide (c = 37)
def oneN (s : List Nat) : Nat × Nat := match s with
 | [] => (0, 0)
 | c :: r => if c = 37 then (cmtN s, 11) else if c = 46 ∧ dotN r = true then (1, 10) else if c = 39 then (qtdN s, 1) else if c = 34 then (qtdN s, 6) else if c = 36 then (chrN s, 5) else if c = 63 then (macN s, 7)
  else if begN c = 3 then numN s else if begN c = 1 ∨ begN c = 2 then (innN s, if rsvN (s.take (innN s)) then 8 else begN c) else (lngN s, 9)
theorem skipN_le : ∀ s : List Nat, skipN s ≤ s.length
 | [] => Nat.le_refl _
 | c :: r => by simp only [skipN, List.length_cons]; have := skipN_le r; split <;> omega
theorem innN_le : ∀ s : List Nat, innN s ≤ s.length
 | [] => Nat.le_refl _
 | c :: r => by simp only [innN, List.length_cons]; have := innN_le r; split <;> omega
theorem lineN_le : ∀ s : List Nat, lineN s ≤ s.length
 | [] => Nat.le_refl _
 | c :: r => by simp only [lineN, List.length_cons]; have := lineN_le r; split <;> omega
theorem trmN_le (s : List Nat) : ∀ i, trmN s i ≤ i
 | 0 => Nat.le_refl _
 | i + 1 => by
  simp only [trmN]
  have := trmN_le s i
  split
  ·split <;> omega
  ·omega
theorem shwN_le (s : List Nat) : shwN s ≤ s.length ∧ shwN s ≤ 4 := by
 unfold shwN
 split
 ·omega
 ·cases s with
  | nil => exact ⟨Nat.le_refl _, Nat.zero_le _⟩
  | cons c r =>
   obtain ⟨n, n1, n2, n3, n4, -⟩ := dec_size (s := c :: r) (by simp)
   rw [n1, Int.toNat_natCast]; exact ⟨n4, n3⟩
theorem bmp_le {n m k : Nat} (h : n + m ≤ k) : bmp n m ≤ k := by unfold bmp; split <;> omega
theorem quoN_le (q : Nat) : ∀ (f : Nat) (s : List Nat), quoN q f s ≤ s.length
 | 0, s => Nat.zero_le _
 | f + 1, [] => Nat.zero_le _
 | f + 1, c :: r => by
  have h1 := (shwN_le r).1
  have h2 := (shwN_le (c :: r)).1
  have h3 := quoN_le q f (r.drop (shwN r))
  have h4 := quoN_le q f ((c :: r).drop (shwN (c :: r)))
  rw [List.length_drop] at h3 h4
  simp only [List.length_cons] at h2 h4 ⊢
  simp only [quoN]
  split
  ·omega
  ·split
   ·by_cases h : shwN r = 0
    ·rw [if_pos h]; simp [bmp]
    ·rw [if_neg h]; exact bmp_le (by omega)
   ·by_cases h : shwN (c :: r) = 0
    ·rw [if_pos h]; simp [bmp]
    ·rw [if_neg h]; exact bmp_le (by omega)
theorem qtdN_le (s : List Nat) : qtdN s ≤ s.length := by
 unfold qtdN
 split
 ·rename_i q r
  have := quoN_le q r.length r
  simp only [List.length_cons]
  exact bmp_le (by omega)
 ·exact Nat.zero_le _
theorem dec_ascii {c : Nat} (r : List Nat) (h : c < 128) : dec (c :: r) = ((c : Int), 1) := by
 have hl : leadN c = (1, c) := by unfold leadN; rw [if_pos h]
 have hc : cpN c = true := by unfold cpN; simp; omega
 have hm : moreN 0 c r = some c := by cases r <;> rfl
 simp only [dec, hl]
 rw [if_neg (by decide)]
 show fitN 1 (moreN 0 c r) = _
 rw [hm]
 show (if leastN 1 ≤ c ∧ cpN c = true then _ else _) = _
 rw [if_pos ⟨Nat.zero_le _, hc⟩]
 rfl
theorem dec_big {c : Nat} (r : List Nat) (h : ¬ c < 128) : (dec (c :: r)).1 = -1 ∨ 128 ≤ (dec (c :: r)).1 := by
 simp only [dec]
 split
 ·exact .inl rfl
 ·rename_i h0
  unfold fitN
  split
  ·exact .inl rfl
  ·split
   ·rename_i y hy hh
    right
    have : (leadN c).1 = 2 ∨ (leadN c).1 = 3 ∨ (leadN c).1 = 4 := by
     unfold leadN at h0 ⊢
     rw [if_neg h] at h0 ⊢
     split
     ·simp
     ·split
      ·simp
      ·split
       ·simp
       ·rename_i a b c; rw [if_neg a, if_neg b, if_neg c] at h0; exact absurd rfl h0
    have h1 := hh.1
    rcases this with e | e | e <;> rw [e] at h1 <;> simp [leastN] at h1 <;> (show (128 : Int) ≤ (_ : Int); omega)
   ·exact .inl rfl
theorem escN_cases (s : List Nat) : escN s = (-1, 0) ∨ ∃ v n : Nat, escN s = ((v : Int), (n : Int)) ∧ 2 ≤ n ∧ n ≤ s.length := by
 match s with
 | [] => exact .inl rfl
 | [a] => exact .inl rfl
 | a :: c :: r =>
  simp only [escN]
  split
  ·unfold escB
   split
   ·
    unfold hexN
    cases r with
    | nil => exact .inl rfl
    | cons d q =>
     simp only []
     split
     ·unfold hexBr
      split
      ·exact .inl rfl
      ·have h1 := (digV_le 16 6 0 q).2
       split
       ·rename_i hz
        split
        ·right
         refine ⟨_, _, rfl, by omega, ?_⟩
         have := congrArg List.length hz
         simp only [List.length_drop, List.length_cons] at this ⊢
         omega
        ·exact .inl rfl
       ·exact .inl rfl
     ·unfold hex2
      split
      ·exact .inl rfl
      ·have h1 := digV_le 16 2 0 (d :: q)
       right
       refine ⟨_, 4, rfl, by omega, ?_⟩
       simp only [List.length_cons] at h1 ⊢
       omega
   ·split
    ·unfold ctlN
     split
     ·split
      ·exact .inl rfl
      ·right; exact ⟨_, 3, rfl, by omega, by simp⟩
     ·exact .inl rfl
    ·split
     ·right
      rename_i h8
      have h1 := digV_le 8 3 0 (c :: r)
      refine ⟨_, _, rfl, ?_, ?_⟩
      ·have : dgN c < 8 := by unfold dgN; rw [if_pos (by omega)]; omega
       simp only [digV, this, if_true]; omega
      ·simp only [List.length_cons] at h1 ⊢; omega
     ·split
      ·unfold uniN
       split
       ·exact .inl rfl
       ·rename_i h32
        obtain ⟨n, n1, n2, n3, n4, -⟩ := dec_size (s := c :: r) (by simp)
        right
        refine ⟨(dec (c :: r)).1.toNat, n + 1, ?_, by omega, ?_⟩
        ·rw [n1]; refine Prod.ext ?_ ?_
         ·simp only []; omega
         ·simp only []; push_cast; rfl
        ·simp only [List.length_cons] at n4 ⊢; omega
      ·right; exact ⟨_, 2, rfl, by omega, by simp⟩
  ·exact .inl rfl
theorem chrN_le (s : List Nat) : chrN s ≤ s.length := by
 unfold chrN
 split
 ·rename_i a c r
  have h1 := (shwN_le (c :: r)).1
  split
  ·rcases escN_cases (c :: r) with h | ⟨v, n, h, h2, h3⟩
   ·rw [h]; simp
   ·rw [h]; simp only [List.length_cons] at h3 ⊢
    split
    ·rw [Int.toNat_natCast]; omega
    ·omega
  ·split
   ·simp only [List.length_cons] at h1 ⊢; omega
   ·omega
 ·omega
theorem expN_le (s : List Nat) : expN s ≤ s.length := by
 unfold expN
 split
 ·rename_i e q
  split
  ·have h1 := runN_le 10 false (q.drop (sgn q))
   have h2 := sgn_le q
   rw [List.length_drop] at h1
   simp only [List.length_cons]
   split <;> omega
  ·omega
 ·omega
theorem partN_le (s : List Nat) : partN s ≤ s.length := by
 unfold partN
 split
 ·omega
 ·have h0 := runN_le 10 false s
  unfold fracN
  split
  ·rename_i c r hc
   have hl := drop_len hc
   split
   ·split
    ·omega
    ·have h1 := runN_le 10 false r
     have h2 := expN_le (r.drop (runN 10 false r))
     rw [List.length_drop] at h2
     omega
   ·omega
  ·omega
theorem wholeN_le (s : List Nat) : wholeN s ≤ s.length := by
 unfold wholeN
 have h0 := runN_le 10 false s
 have h1 := runN_le (frontN s).2 false (s.drop (frontN s).1)
 have h2 := (frontN_le s).1
 rw [List.length_drop] at h1
 split <;> omega
theorem endN_le {s : List Nat} {n kind : Nat} (h : n ≤ s.length) : (endN s n kind).1 ≤ s.length := by
 unfold endN
 split
 ·split
  ·exact Nat.zero_le _
  ·exact h
 ·exact h
theorem numN_le (s : List Nat) : (numN s).1 ≤ s.length := by
 unfold numN
 split
 ·split
  ·exact Nat.zero_le _
  ·exact endN_le (wholeN_le s)
 ·exact endN_le (partN_le s)
theorem mac1_le (n : Nat) (t : List Nat) : mac1 n t ≤ n + t.length := by
 unfold mac1
 split
 ·rename_i c r
  have := innN_le (c :: r)
  split <;> omega
 ·omega
theorem macN_le (s : List Nat) : macN s ≤ s.length := by
 unfold macN
 split
 ·rename_i a c r
  have h1 := mac1_le 2 r
  have h2 := mac1_le 1 (c :: r)
  simp only [List.length_cons] at h2 ⊢
  split <;> omega
 ·omega
theorem oneN_le (s : List Nat) : (oneN s).1 ≤ s.length := by
 unfold oneN
 split
 ·exact Nat.le_refl _
 ·rename_i c r
  repeat' split
  ·exact Nat.le_trans (trmN_le _ _) (lineN_le _)
  ·simp
  ·exact qtdN_le (c :: r)
  ·exact qtdN_le (c :: r)
  ·exact chrN_le (c :: r)
  ·exact macN_le (c :: r)
  ·exact numN_le (c :: r)
  ·exact innN_le (c :: r)
  ·exact innN_le (c :: r)
  ·exact fstN_le _ _
end Go.Proofs.Ytbmijiibfaacmaa.Am
set_option maxRecDepth 100000
set_option linter.unusedVariables false
set_option linter.unusedSimpArgs false
namespace Go.Proofs.Ytbmijiibfaacmaa.Am
open Go
def mkTok (s : List Nat) (x : Nat × Nat × Nat) : S46 := ⟨(x.1 : Int), (s.drop x.2.1).take x.2.2, (x.2.1 : Int)⟩
def toksN (s : List Nat) : Nat → Nat → Option (List (Nat × Nat × Nat))
 | 0, _ => some []
 | f + 1, a => if s.length ≤ a + skipN (s.drop a) then some [] else if (oneN (s.drop (a + skipN (s.drop a)))).1 = 0 then none else (toksN s f (a + skipN (s.drop a) + (oneN (s.drop (a + skipN (s.drop a)))).1)).map fun l => ((oneN (s.drop (a + skipN (s.drop a)))).2, a + skipN (s.drop a), (oneN (s.drop (a + skipN (s.drop a)))).1) :: l
def scanN (s : List Nat) : List S46 × Int := if 65536 < s.length then ([], 3) else if vld s.length s = false then ([], 2) else match toksN s (s.length + 1) 0 with | some l => (l.map (mkTok s), 0) | none => ([], 4)
def tok0 : S46 := ⟨0, [], 0⟩
def oneAt (s : List Nat) (a : Nat) : S46 × Int := if (oneN (s.drop a)).1 = 0 then (tok0, 4) else (mkTok s ((oneN (s.drop a)).2, a, (oneN (s.drop a)).1), 0)
theorem toks_len (s : List Nat) : ∀ (f a : Nat) (l : List (Nat × Nat × Nat)), toksN s f a = some l → a ≤ s.length → l.length + a ≤ s.length
 | 0, a, l, h, ha => by cases h; simpa using ha
 | f + 1, a, l, h, ha => by
  unfold toksN at h
  split at h
  ·cases h; simpa using ha
  ·split at h
   ·cases h
   ·rename_i h1 h2
    cases hx : toksN s f (a + skipN (s.drop a) + (oneN (s.drop (a + skipN (s.drop a)))).1) with
    | none => rw [hx] at h; cases h
    | some l' =>
     rw [hx] at h
     cases h
     have ol := oneN_le (s.drop (a + skipN (s.drop a)))
     rw [List.length_drop] at ol
     have := toks_len s f _ l' hx (by omega)
     simp only [List.length_cons]
     omega
end Go.Proofs.Ytbmijiibfaacmaa.Am
set_option maxRecDepth 100000
set_option linter.unusedVariables false
set_option linter.unusedSimpArgs false
namespace Go.Proofs.Ytbmijiibfaacmaa.Am
open Go
theorem escN_no {a : Nat} {r : List Nat} (h : a ≠ 92) : escN (a :: r) = (-1, 0) := by
 cases r with
 | nil => rfl
 | cons c r => simp only [escN, h, if_false]
theorem rrunV_l (k : Nat) {s : List Nat} (hs : By s) (hl : Sz s) {p b M : Nat} (hb : b ≤ 16) (hpl : p ≤ s.length + 10) (hM : M ≤ 6) : ∀ (d f n v : Nat), n + d = M → d < f → (v + 1) * 16 ^ d ≤ 16777216 →
 g77_l2 k s (p : Int) (b : Int) (M : Int) f (v : Int) (n : Int) = some (((digV b d v (s.drop (p + n))).1 : Int), ((n + (digV b d v (s.drop (p + n))).2 : Nat) : Int))
 | 0, f, n, v, hn, hf, hv => by
  unfold Sz at hl
  obtain ⟨f, rfl⟩ : ∃ f', f = f' + 1 := ⟨f - 1, by omega⟩
  rw [g77_l2_s]
  refine (jS (v := (false, (v : Int), (n : Int))) (fun j => ?_)).trans ?_
  ·clear hv; simp (disch := omega) only [↓reduceIte, ↓jn, gsL]
  ·rfl
 | d + 1, f, n, v, hn, hf, hv => by
  have hl' := hl
  unfold Sz at hl
  obtain ⟨f, rfl⟩ : ∃ f', f = f' + 1 := ⟨f - 1, by omega⟩
  rw [g77_l2_s]
  rcases Nat.lt_or_ge (p + n) s.length with h | h
  ·obtain ⟨c, r, hc, hr, hm, hrl⟩ := dcons h
   have nc : nthS s ((p : Int) + n) = some (c : Int) := nthX (by omega) hc
   have vc := value_at k (b := b) (hs c hm) (by omega)
   by_cases hd : dgN c < b
   ·rw [if_pos hd] at vc
    have e := fun _ : Unit => fw_s (n := n) (by clear hv; omega)
    refine (jS (v := (true, (v : Int), (n : Int))) (fun j => ?_)).trans ?_
    ·clear hv; simp (disch := omega) only [↓reduceIte, ↓jn, gsL, nc, vc]
    ·refine iT (by first | (simp (disch := omega) only [↓reduceIte, ↓jn, gsL]; done) | rfl) ?_
     refine bS (by (try simp (disch := omega) only [fwI]); exact nc) ?_
     refine bS (by (try simp (disch := omega) only [fwI]); exact vc) ?_
     have h16 : 1 ≤ 16 ^ d := Nat.one_le_pow _ _ (by decide)
     have hvb : v * b ≤ v * 16 := Nat.mul_le_mul_left _ hb
     have hv' : (v * b + dgN c + 1) * 16 ^ d ≤ 16777216 := by
      refine Nat.le_trans ?_ hv
      rw [Nat.pow_succ 16 d, Nat.mul_comm (16 ^ d) 16, ← Nat.mul_assoc]
      exact Nat.mul_le_mul_right _ (by omega)
     have hv1 : v * b + dgN c + 1 ≤ 16777216 := Nat.le_trans (Nat.le_mul_of_pos_right _ h16) hv'
     have ih := rrunV_l k hs hl' (p := p) (b := b) (M := M) hb hpl hM d f (n + 1) (v * b + dgN c) (by omega) (by omega) hv'
     rw [e (), show (v : Int) * (b : Int) = ((v * b : Nat) : Int) from by push_cast; rfl, fwI (n := ((v * b : Nat) : Int)) (by omega) (by omega), fw_a (by omega) (by omega)]
     refine ih.trans ?_
     rw [show p + (n + 1) = p + n + 1 from rfl, hr, hc]
     simp only [digV, hd, if_true]
     rw [Nat.add_assoc n 1, Nat.add_comm 1]
   ·rw [if_neg hd] at vc
    refine (jS (v := (false, (v : Int), (n : Int))) (fun j => ?_)).trans ?_
    ·clear hv; simp (disch := omega) only [↓reduceIte, ↓jn, gsL, nc, vc]
    ·rw [hc]; simp only [digV, hd, if_false]; rfl
  ·refine (jS (v := (false, (v : Int), (n : Int))) (fun j => ?_)).trans ?_
   ·clear hv; simp (disch := omega) only [↓reduceIte, ↓jn, gsL]
   ·rw [dnil h]; simp only [digV]; rfl
theorem rrunV_at {k : Nat} {s : List Nat} (hs : By s) (hl : Sz s) {p b M : Nat} (hb : b ≤ 16) (hpl : p ≤ s.length + 10) (hM : M ≤ 6) (hk : 7 ≤ k) : g77 k s (p : Int) (b : Int) (M : Int) = some (((digV b M 0 (s.drop p)).1 : Int), ((digV b M 0 (s.drop p)).2 : Int)) := by
 have hp : 16 ^ M ≤ 16777216 := Nat.pow_le_pow_right (n := 16) (by decide) hM
 have := rrunV_l k hs hl (p := p) (b := b) (M := M) hb hpl hM M k 0 0 (by omega) (by omega) (by omega)
 rw [Nat.zero_add] at this
 exact this
theorem rname_no (k : Nat) (s : List Nat) (a : Int) {d : Nat} (hd : nameN d = 0) (f : Nat) : g75_l13 k s a (d : Int) (f + 10) 0 = g75_l13 k s a (d : Int) (f + 1) 9 := by
 have ne : d ≠ 98 ∧ d ≠ 100 ∧ d ≠ 101 ∧ d ≠ 102 ∧ d ≠ 110 ∧ d ≠ 114 ∧ d ≠ 115 ∧ d ≠ 116 ∧ d ≠ 118 := by
  refine ⟨?_, ?_, ?_, ?_, ?_, ?_, ?_, ?_, ?_⟩ <;> (intro h; subst h; revert hd; decide)
 obtain ⟨e1, e2, e3, e4, e5, e6, e7, e8, e9⟩ := ne
 have st : ∀ (i b f : Nat), i < 9 → nthS g75c1 (i : Int) = some (b : Int) → d ≠ b → g75_l13 k s a (d : Int) (f + 1) (i : Int) = g75_l13 k s a (d : Int) f ((i + 1 : Nat) : Int) := by
  intro i b f hi hn hb
  rw [g75_l13_s]
  refine iT (by first | (simp (disch := omega) only [↓reduceIte, ↓jn, gsL]; done) | rfl) ?_
  refine bS (by (try simp (disch := omega) only [fwI]); exact hn) ?_
  rw [dF (show ¬ (b : Int) = (d : Int) by omega), fw_s (by omega)]
  rfl
 exact (st 0 98 (f + 9) (by decide) rfl e1).trans <| (st 1 100 (f + 8) (by decide) rfl e2).trans <| (st 2 101 (f + 7) (by decide) rfl e3).trans <| (st 3 102 (f + 6) (by decide) rfl e4).trans <| (st 4 110 (f + 5) (by decide) rfl e5).trans <| (st 5 114 (f + 4) (by decide) rfl e6).trans <| (st 6 115 (f + 3) (by decide) rfl e7).trans <| (st 7 116 (f + 2) (by decide) rfl e8).trans (st 8 118 (f + 1) (by decide) rfl e9)
theorem rescape_t {k : Nat} (hk : 10 ≤ k) {s : List Nat} (hs : By s) (hl : Sz s) {a d f : Nat} {q : List Nat} (hr : s.drop (a + 1) = d :: q) (hd : nameN d = 0) :
 g75_l13 k s (a : Int) (d : Int) (f + 1) 9 = some (escB d q) := by
 have hl' := hl
 unfold Sz at hl
 have d256 := hs d (drop_mem hr)
 have dq : s.drop (a + 2) = q := drop_step hr
 have ql := drop_len hr
 rw [g75_l13_s]
 refine iF rfl ?_
 unfold escB
 by_cases h8 : 48 ≤ d ∧ d ≤ 55
 ·refine (jS (v := true) (fun j => ?_)).trans ?_
  ·simp (disch := omega) only [↓reduceIte, ↓jn, gsL]
  ·refine iT (by first | (simp (disch := omega) only [↓reduceIte, ↓jn, gsL]; done) | rfl) ?_
   rw [fw_s (by omega)]
   have r := rrunV_at (k := k) hs hl' (p := a + 1) (b := 8) (M := 3) (by decide) (by omega) (by decide) (by omega)
   rw [hr] at r
   refine bS (by (try simp (disch := omega) only [fwI]); exact r) ?_
   have := (digV_le 8 3 0 (d :: q)).1
   rw [show (1 : Int) = ((1 : Nat) : Int) from rfl, fw_a (by omega) (by omega)]
   rw [if_neg (show ¬ d = 120 by omega), if_neg (show ¬ d = 94 by omega), if_pos h8]
   rfl
 ·refine (jS (v := false) (fun j => ?_)).trans ?_
  ·by_cases h1 : 48 ≤ d
   ·simp (disch := omega) only [↓reduceIte, ↓jn, gsL]
   ·simp (disch := omega) only [↓reduceIte, ↓jn, gsL]
  ·refine iF (by first | (simp (disch := omega) only [↓reduceIte, ↓jn, gsL]; done) | rfl) ?_
   by_cases h120 : d = 120
   ·subst h120
    rw [if_pos rfl]
    cases q with
    | nil =>
     simp only [List.length_nil] at ql
     refine (jS (v := false) (fun j => ?_)).trans ?_
     ·simp (disch := omega) only [↓reduceIte, ↓jn, gsL]
     ·refine iF (by first | (simp (disch := omega) only [↓reduceIte, ↓jn, gsL]; done) | rfl) ?_
      refine iT (by first | (simp (disch := omega) only [↓reduceIte, ↓jn, gsL]; done) | rfl) ?_
      have r := rrunV_at (k := k) hs hl' (p := a + 2) (b := 16) (M := 2) (by decide) (by omega) (by decide) (by omega)
      rw [dq] at r
      rw [show fW .i64 ((a : Int) + 2) = ((a + 2 : Nat) : Int) from fw_a (m := 2) (by omega) (by omega)]
      refine bS (by (try simp (disch := omega) only [fwI]); exact r) ?_
      rfl
    | cons c r =>
     have hc := dq
     have c256 := hs c (drop_mem hc)
     simp only [List.length_cons] at ql
     have nc : nthS s ((a : Int) + 2) = some (c : Int) := nthX (i := a + 2) (by omega) hc
     have dr : s.drop (a + 3) = r := drop_step hc
     by_cases h123 : c = 123
     ·subst h123
      refine (jS (v := true) (fun j => ?_)).trans ?_
      ·simp (disch := omega) only [↓reduceIte, ↓jn, gsL, nc]
      ·refine iT (by first | (simp (disch := omega) only [↓reduceIte, ↓jn, gsL]; done) | rfl) ?_
       have rr := rrunV_at (k := k) hs hl' (p := a + 3) (b := 16) (M := 6) (by decide) (by omega) (by decide) (by omega)
       rw [dr] at rr
       rw [show fW .i64 ((a : Int) + 3) = ((a + 3 : Nat) : Int) from fw_a (m := 3) (by omega) (by omega)]
       refine bS (by (try simp (disch := omega) only [fwI]); exact rr) ?_
       have hvl := digV_le 16 6 0 r
       simp only [hexN, if_true]
       unfold hexBr
       by_cases h0 : (digV 16 6 0 r).2 = 0
       ·rw [if_pos h0]
        refine (jS (v := true) (fun j => ?_)).trans rfl
        rw [h0]; rfl
       ·rw [if_neg h0]
        have ee := fun _ : Unit => fw_a (n := a + 3) (m := (digV 16 6 0 r).2) (by omega) (by omega)
        have dz : s.drop (a + 3 + (digV 16 6 0 r).2) = r.drop (digV 16 6 0 r).2 := by rw [← List.drop_drop, dr]
        cases hz : r.drop (digV 16 6 0 r).2 with
        | nil =>
         have : s.length ≤ a + 3 + (digV 16 6 0 r).2 := by
          have := congrArg List.length (dz.trans hz)
          rw [List.length_drop, List.length_nil] at this
          omega
         refine (jS (v := true) (fun j => ?_)).trans rfl
         rw [ee ()]
         simp (disch := omega) only [↓reduceIte, ↓jn, gsL, h0]
        | cons z qq =>
         rw [hz] at dz
         have nz := nthX (x := ((a + 3 + (digV 16 6 0 r).2 : Nat) : Int)) rfl dz
         have zl := drop_len dz
         by_cases h125 : z = 125
         ·subst h125
          simp only [true_and]
          refine (jS (v := !cpN (digV 16 6 0 r).1) (fun j => ?_)).trans ?_
          ·rw [ee ()]
           simp (disch := omega) only [↓reduceIte, ↓jn, gsL, h0, nz, point_at]
          ·cases cpN (digV 16 6 0 r).1 with
           | false => rfl
           | true =>
            refine iF (by first | (simp (disch := omega) only [↓reduceIte, ↓jn, gsL]; done) | rfl) ?_
            rw [show (4 : Int) = ((4 : Nat) : Int) from rfl, fw_a (by omega) (by omega)]
            rfl
         ·simp only [h125, false_and, if_false]
          refine (jS (v := true) (fun j => ?_)).trans rfl
          rw [ee ()]
          have : ¬ (z : Int) = 125 := by omega
          simp (disch := omega) only [↓reduceIte, ↓jn, gsL, h0, nz, this]
     ·refine (jS (v := false) (fun j => ?_)).trans ?_
      ·have : ¬ (c : Int) = 123 := by omega
       simp (disch := omega) only [↓reduceIte, ↓jn, gsL, nc, this]
      ·refine iF (by first | (simp (disch := omega) only [↓reduceIte, ↓jn, gsL]; done) | rfl) ?_
       refine iT (by first | (simp (disch := omega) only [↓reduceIte, ↓jn, gsL]; done) | rfl) ?_
       have rr := rrunV_at (k := k) hs hl' (p := a + 2) (b := 16) (M := 2) (by decide) (by omega) (by decide) (by omega)
       rw [dq] at rr
       rw [show fW .i64 ((a : Int) + 2) = ((a + 2 : Nat) : Int) from fw_a (m := 2) (by omega) (by omega)]
       refine bS (by (try simp (disch := omega) only [fwI]); exact rr) ?_
       simp only [hexN, h123, if_false]
       unfold hex2
       by_cases h2 : (digV 16 2 0 (c :: r)).2 < 2
       ·rw [if_pos h2]; refine iT (by first | (simp (disch := omega) only [↓reduceIte, ↓jn, gsL]; done) | rfl) ?_; rfl
       ·rw [if_neg h2]; refine iF (by first | (simp (disch := omega) only [↓reduceIte, ↓jn, gsL]; done) | rfl) ?_; rfl
   ·rw [if_neg h120]
    refine (jS (v := false) (fun j => ?_)).trans ?_
    ·simp (disch := omega) only [↓reduceIte, ↓jn, gsL]
    ·refine iF (by first | (simp (disch := omega) only [↓reduceIte, ↓jn, gsL]; done) | rfl) ?_
     refine iF (by first | (simp (disch := omega) only [↓reduceIte, ↓jn, gsL]; done) | rfl) ?_
     by_cases h94 : d = 94
     ·subst h94
      rw [if_pos rfl]
      refine iT (by first | (simp (disch := omega) only [↓reduceIte, ↓jn, gsL]; done) | rfl) ?_
      cases q with
      | nil =>
       simp only [List.length_nil] at ql
       refine (jS (v := true) (fun j => ?_)).trans ?_
       ·simp (disch := omega) only [↓reduceIte, ↓jn, gsL]
       ·rfl
      | cons c r =>
       have hc := dq
       have c256 := hs c (drop_mem hc)
       simp only [List.length_cons] at ql
       have nc : nthS s ((a : Int) + 2) = some (c : Int) := nthX (i := a + 2) (by omega) hc
       by_cases h0 : c < 64 ∨ 95 < c ∧ (c < 97 ∨ 122 < c)
       ·simp only [ctlN, h0, if_true]
        refine (jS (v := true) (fun j => ?_)).trans rfl
        by_cases h1 : c < 64
        ·simp (disch := omega) only [↓reduceIte, ↓jn, gsL, nc]
        ·by_cases h2 : c < 97
         ·simp (disch := omega) only [↓reduceIte, ↓jn, gsL, nc]
         ·simp (disch := omega) only [↓reduceIte, ↓jn, gsL, nc]
       ·simp only [ctlN, h0, if_false]
        refine (jS (v := false) (fun j => ?_)).trans ?_
        ·by_cases h1 : 95 < c
         ·simp (disch := omega) only [↓reduceIte, ↓jn, gsL, nc]
         ·simp (disch := omega) only [↓reduceIte, ↓jn, gsL, nc]
        ·refine iF (by first | (simp (disch := omega) only [↓reduceIte, ↓jn, gsL]; done) | rfl) ?_
         refine bS (by (try simp (disch := omega) only [fwI]); exact nc) ?_
         rw [fwI (n := (c : Int)) (by omega) (by omega), (and31 c256).2]
     ·rw [if_neg h94, if_neg h8, if_pos hd]
      refine iF (by first | (simp (disch := omega) only [↓reduceIte, ↓jn, gsL]; done) | rfl) ?_
      have nx := rnext_at (k := k) (by omega) hs hl' (a + 1)
      rw [hr] at nx
      rw [fw_s (by omega)]
      refine bS (by (try simp (disch := omega) only [fwI]); exact nx) ?_
      unfold uniN
      obtain ⟨n, n1, n2, n3, n4, -⟩ := dec_size (s := d :: q) (by simp)
      by_cases h32 : (dec (d :: q)).1 < 32
      ·rw [if_pos h32]; refine iT (by first | (simp (disch := omega) only [↓reduceIte, ↓jn, gsL, h32]; done) | rfl) ?_; rfl
      ·rw [if_neg h32]; refine iF (by first | (simp (disch := omega) only [↓reduceIte, ↓jn, gsL, h32]; done) | rfl) ?_; rw [n1, show (1 : Int) = ((1 : Nat) : Int) from rfl, fw_a (by clear n1; omega) (by clear n1; omega), Nat.add_comm]; rfl
theorem rescape_at {k : Nat} (hk : 10 ≤ k) {s : List Nat} (hs : By s) (hl : Sz s) (a : Nat) : g75 k s (a : Int) = some (escN (s.drop a)) := by
 have hl' := hl
 unfold Sz at hl
 unfold g75
 have fail : ∀ (f : Bool → Option (Int × Int)) (g : (Bool → Option (Int × Int)) → Option (Int × Int)), f true = some (-1, 0) → (∀ j, g j = j true) → escN (s.drop a) = (-1, 0) → jn f g = some (escN (s.drop a)) := by
  intro f g hf hg he
  rw [he]; exact (hg f).trans hf
 rcases Nat.lt_or_ge a s.length with h | h
 ·obtain ⟨c, r, hc, hr, hm, hrl⟩ := dcons h
  have nc := nthX (x := (a : Int)) rfl hc
  cases hr2 : r with
  | nil =>
   rw [hr2] at hrl hc
   simp only [List.length_nil] at hrl
   refine fail _ _ rfl (fun j => ?_) (by rw [hc]; rfl)
   simp (disch := omega) only [↓reduceIte, ↓jn, gsL]
  | cons d q =>
   rw [hr2] at hr hrl hc
   have d256 := hs d (drop_mem hr)
   simp only [List.length_cons] at hrl
   by_cases h92 : c = 92
   ·subst h92
    have nd : nthS s ((a : Int) + 1) = some (d : Int) := nthX (i := a + 1) (by omega) hr
    refine (jS (v := false) (fun j => ?_)).trans ?_
    ·simp (disch := omega) only [↓reduceIte, ↓jn, gsL, nc]
    ·refine iF (by first | (simp (disch := omega) only [↓reduceIte, ↓jn, gsL]; done) | rfl) ?_
     refine bS (by (try simp (disch := omega) only [fwI]); exact nd) ?_
     rw [hc]
     simp only [escN, if_true]
     obtain ⟨k', rfl⟩ : ∃ k', k = k' + 10 := ⟨k - 10, by omega⟩
     by_cases hd : nameN d = 0
     ·rw [rname_no _ _ _ hd]
      exact rescape_t hk hs hl' hr hd
     ·unfold nameN at hd
      by_cases e1 : d = 98
      ·subst e1; rfl
      by_cases e2 : d = 100
      ·subst e2; rfl
      by_cases e3 : d = 101
      ·subst e3; rfl
      by_cases e4 : d = 102
      ·subst e4; rfl
      by_cases e5 : d = 110
      ·subst e5; rfl
      by_cases e6 : d = 114
      ·subst e6; rfl
      by_cases e7 : d = 115
      ·subst e7; rfl
      by_cases e8 : d = 116
      ·subst e8; rfl
      by_cases e9 : d = 118
      ·subst e9; rfl
      simp only [e1, e2, e3, e4, e5, e6, e7, e8, e9, if_false] at hd
      exact absurd trivial hd
   ·refine fail _ _ rfl (fun j => ?_) (by rw [hc]; exact escN_no h92)
    have h92' : ¬ (c : Int) = 92 := by omega
    simp (disch := omega) only [↓reduceIte, ↓jn, gsL, nc, h92']
 ·refine fail _ _ rfl (fun j => ?_) (by rw [dnil h]; rfl)
  simp (disch := omega) only [↓reduceIte, ↓jn, gsL]
end Go.Proofs.Ytbmijiibfaacmaa.Am
set_option maxRecDepth 100000
set_option linter.unusedVariables false
set_option linter.unusedSimpArgs false
namespace Go.Proofs.Ytbmijiibfaacmaa.Am
open Go
theorem dg10 {c : Nat} (hc : c < 256) (h : dgN c < 10) : fW .i64 (fW .u8 ((c : Int) - 48)) = ((dgN c : Nat) : Int) := by
 have w := byteAll (f := fun c => !decide (dgN c < 10) || decide (fW .i64 (fW .u8 ((c : Int) - 48)) = ((dgN c : Nat) : Int))) (by decide +kernel) hc
 simpa [h] using w
theorem rwhole_e (k : Nat) {s : List Nat} (hk : s.length < k) (hs : By s) (hl : Sz s) (c8 : Unit → Option Int) {a m V n f : Nat} (hV : V ≤ 99) (h : a + m + 1 ≤ s.length) :
 g73_l6 k c8 s (a : Int) (n : Int) (m : Int) (f + 1) (V : Int) ((a + m : Nat) : Int) = if (2 ≤ V ∧ V ≤ 36) ∧ 0 < runN V false (s.drop (a + m + 1)) then some ((m + 1 + runN V false (s.drop (a + m + 1)) : Nat) : Int) else c8 () := by
 rw [g73_l6_s]
 have r := rrun_at hk hs hl hV h
 unfold Sz at hl
 have l := runN_le V false (s.drop (a + m + 1))
 rw [List.length_drop] at l
 have e : ((a : Int) + (m : Int)) = ((a + m : Nat) : Int) := by omega
 have e1 : (((a + m : Nat) : Int) + 1) = ((a + m + 1 : Nat) : Int) := by omega
 refine iF (by first | (simp (disch := omega) only [↓reduceIte, ↓jn, gsL]; done) | rfl) ?_
 rw [fwI (n := (a : Int) + (m : Int)) (by omega) (by omega), e, fwI (n := ((a + m : Nat) : Int) + 1) (by omega) (by omega), e1]
 refine bS (by (try simp (disch := omega) only [fwI]); exact r) ?_
 generalize runN V false (s.drop (a + m + 1)) = K at *
 clear r
 refine (jS (v := decide ((2 ≤ V ∧ V ≤ 36) ∧ 0 < K)) (fun j => ?_)).trans ?_
 ·by_cases h1 : 2 ≤ V
  ·by_cases h2 : V ≤ 36
   ·by_cases h3 : 0 < K
    ·simp (disch := omega) only [↓reduceIte, ↓jn, gsL, h1, h2, h3, and_self]
    ·simp (disch := omega) only [↓reduceIte, ↓jn, gsL, h1, h2, h3, and_self, and_false]
   ·simp (disch := omega) only [↓reduceIte, ↓jn, gsL, h1, h2, and_false, false_and]
  ·simp (disch := omega) only [↓reduceIte, ↓jn, gsL, h1, false_and]
 ·by_cases h0 : (2 ≤ V ∧ V ≤ 36) ∧ 0 < K
  ·rw [if_pos h0]
   refine iT (by first | (simp (disch := omega) only [↓reduceIte, ↓jn, gsL, h0]; done) | rfl) ?_
   simp (disch := omega) only [↓reduceIte, ↓jn, gsL]
   exact congrArg some (by omega)
  ·rw [if_neg h0]
   refine iF (by first | (simp (disch := omega) only [↓reduceIte, ↓jn, gsL, h0]; done) | rfl) ?_
   rfl
theorem rwhole_s (k : Nat) {s : List Nat} (hs : By s) (hl : Sz s) (c8 : Unit → Option Int) {a m V n f i c : Nat} {r : List Nat} (hc : s.drop i = c :: r) (hd : dgN c < 10) (hi : i < a + m) (ha : a + m ≤ s.length) (hV : V ≤ 9) :
 g73_l6 k c8 s (a : Int) (n : Int) (m : Int) (f + 1) (V : Int) (i : Int) = g73_l6 k c8 s (a : Int) (n : Int) (m : Int) f ((10 * V + dgN c : Nat) : Int) ((i + 1 : Nat) : Int) := by
 unfold Sz at hl
 rw [g73_l6_s]
 have c256 := hs c (drop_mem hc)
 refine iT (by first | (simp (disch := omega) only [↓reduceIte, ↓jn, gsL]; done) | rfl) ?_
 refine bS (by (try simp (disch := omega) only [fwI]); exact nthX rfl hc) ?_
 rw [dg10 c256 hd]
 have e1 : ((V : Int) * 10 + (dgN c : Nat)) = ((10 * V + dgN c : Nat) : Int) := by omega
 have e2 : ((i : Int) + 1) = ((i + 1 : Nat) : Int) := by omega
 simp (disch := omega) only [fwI]
 rw [e1, e2]
theorem rwhole_at {k : Nat} {s : List Nat} (hk : s.length < k) (hk3 : 4 ≤ k) (hs : By s) (hl : Sz s) {a : Nat} (ha : a ≤ s.length) : g73 k s (a : Int) = some ((wholeN (s.drop a) : Nat) : Int) := by
 have r1 : g76 k s (a : Int) 10 true = some ((runN 10 false (s.drop a) : Nat) : Int) := rrun_at hk hs hl (b := 10) (by decide) ha
 have r2 := rbar_at hk hs hl ha
 have hl' := hl
 unfold Sz at hl
 unfold g73
 refine bS (by (try simp (disch := omega) only [fwI]); exact r1) ?_
 refine bS (by (try simp (disch := omega) only [fwI]); exact r2) ?_
 obtain ⟨k', rfl⟩ : ∃ k', k = k' + 4 := ⟨k - 4, by omega⟩
 have bl := barN_le 10 (s.drop a)
 rw [List.length_drop] at bl
 have no : frontN (s.drop a) = (0, 10) → wholeN (s.drop a) = runN 10 false (s.drop a) := by
  intro h; unfold wholeN; rw [h]; rfl
 have yes : ∀ m V, frontN (s.drop a) = (m + 1, V) → wholeN (s.drop a) = if 0 < runN V false (s.drop (a + m + 1)) then m + 1 + runN V false (s.drop (a + m + 1)) else runN 10 false (s.drop a) := by
  intro m V h; unfold wholeN; rw [h]; simp only [List.drop_drop, Nat.add_assoc, Nat.succ_pos, true_and]
 clear r1 r2
 generalize hn : runN 10 false (s.drop a) = n at *
 cases ht : s.drop a with
 | nil =>
  rw [ht] at no
  rw [no rfl]
  refine (jS (v := false) (fun j => rfl)).trans ?_
  rfl
 | cons p r =>
  have hp := hs p (drop_mem ht)
  have tl := drop_len ht
  have dr := drop_step ht
  by_cases h1 : dgN p < 10
  ·cases hr : r with
   | nil =>
    rw [hr] at ht tl dr
    rw [ht] at no
    have e3 : barN 10 [p] = 1 := by simp only [barN, h1, if_true]
    rw [no rfl, e3]
    simp only [List.length_nil] at tl
    refine (jS (v := false) (fun j => by simp (disch := omega) only [↓reduceIte, ↓jn, gsL])).trans ?_
    rfl
   | cons q r' =>
    rw [hr] at ht tl dr
    have hq := hs q (drop_mem dr)
    have dr' := drop_step dr
    have tl' := drop_len dr
    by_cases h2 : dgN q < 10
    ·have hq35 : ¬ q = 35 := by intro h; rw [h] at h2; exact dg_35 h2
     cases hr' : r' with
     | nil =>
      rw [hr'] at ht tl dr dr'
      rw [ht] at no
      have e3 : barN 10 [p, q] = 2 := by simp only [barN, h1, h2, if_true]
      have e4 : frontN [p, q] = (0, 10) := by simp only [frontN, h1, h2, hq35, if_true, if_false]
      rw [no e4, e3]
      simp only [List.length_cons, List.length_nil] at tl
      refine (jS (v := false) (fun j => by simp (disch := omega) only [↓reduceIte, ↓jn, gsL])).trans ?_
      rfl
     | cons c r'' =>
      rw [hr'] at ht tl dr dr'
      have hc := hs c (drop_mem dr')
      by_cases h3 : dgN c < 10
      ·have hc35 : ¬ c = 35 := by intro h; rw [h] at h3; exact dg_35 h3
       have e3 : barN 10 (p :: q :: c :: r'') = barN 10 r'' + 3 := by simp only [barN, h1, h2, h3, if_true]
       have e4 : frontN (p :: q :: c :: r'') = (0, 10) := by simp only [frontN, h1, h2, hq35, hc35, if_true, if_false, false_and]
       rw [ht] at no
       rw [no e4, e3]
       refine (jS (v := false) (fun j => by simp (disch := omega) only [↓reduceIte, ↓jn, gsL])).trans ?_
       rfl
      ·have e3 : barN 10 (p :: q :: c :: r'') = 2 := by simp only [barN, h1, h2, h3, if_true, if_false]
       have nc : nthS s ((a : Int) + ((2 : Nat) : Int)) = some (c : Int) := nthX (by omega) dr'
       simp only [List.length_cons] at tl
       by_cases hc35 : c = 35
       ·subst hc35
        have go := rwhole_e (k' + 4) hk hs hl' (n := n) (a := a) (m := 2) (f := k' + 1) (V := 10 * (10 * 0 + dgN p) + dgN q)
        have st1 := fun c8 => rwhole_s (k' + 4) hs hl' c8 (n := n) (a := a) (m := 2) (f := k' + 3) (V := 0) ht h1 (by omega) (by omega) (by omega)
        have st2 := fun c8 => rwhole_s (k' + 4) hs hl' c8 (n := n) (a := a) (m := 2) (f := k' + 2) (V := 10 * 0 + dgN p) dr h2 (by omega) (by omega) (by omega)
        rw [show 10 * 0 + dgN p = dgN p by omega] at *
        rw [e3]
        refine (jS (v := true) (fun j => ?_)).trans ?_
        ·simp (disch := omega) only [↓reduceIte, ↓jn, gsL, nc]
        ·by_cases hf : 2 ≤ 10 * dgN p + dgN q ∧ 10 * dgN p + dgN q ≤ 36
         ·have e4 : frontN (p :: q :: 35 :: r'') = (2 + 1, 10 * dgN p + dgN q) := by simp only [frontN, h1, h2, hq35, hf, if_true, if_false, and_self]
          rw [ht] at yes
          rw [yes 2 _ e4]
          by_cases hK : 0 < runN (10 * dgN p + dgN q) false (s.drop (a + 2 + 1))
          ·refine jC fun j => ?_
           refine iT (by first | (simp (disch := omega) only [↓reduceIte, ↓jn, gsL]; done) | rfl) ?_
           refine (st1 j).trans ((st2 j).trans ((go j (by omega) (by omega)).trans ?_))
           rw [if_pos ⟨hf, hK⟩, if_pos hK]
          ·refine (jS (v := ()) (fun j => ?_)).trans ?_
           ·refine iT (by first | (simp (disch := omega) only [↓reduceIte, ↓jn, gsL]; done) | rfl) ?_
            refine (st1 j).trans ((st2 j).trans ((go j (by omega) (by omega)).trans ?_))
            rw [if_neg (fun h => hK h.2)]
           ·rw [if_neg hK]
         ·have e4 : frontN (p :: q :: 35 :: r'') = (0, 10) := by simp only [frontN, h1, h2, hq35, if_true, if_false, true_and, hf]
          rw [ht] at no
          rw [no e4]
          refine (jS (v := ()) (fun j => ?_)).trans rfl
          refine iT (by first | (simp (disch := omega) only [↓reduceIte, ↓jn, gsL]; done) | rfl) ?_
          refine (st1 j).trans ((st2 j).trans ((go j (by omega) (by omega)).trans ?_))
          rw [if_neg (fun h => hf h.1)]
       ·have e4 : frontN (p :: q :: c :: r'') = (0, 10) := by simp only [frontN, h1, h2, hq35, hc35, if_true, if_false, false_and]
        rw [ht] at no
        rw [no e4, e3]
        refine (jS (v := false) (fun j => by simp (disch := omega) only [↓reduceIte, ↓jn, gsL, nc])).trans ?_
        rfl
    ·have e3 : barN 10 (p :: q :: r') = 1 := by simp only [barN, h1, h2, if_true, if_false]
     have nc : nthS s ((a : Int) + ((1 : Nat) : Int)) = some (q : Int) := nthX (by omega) dr
     simp only [List.length_cons] at tl
     by_cases hq35 : q = 35
     ·subst hq35
      have go := rwhole_e (k' + 4) hk hs hl' (n := n) (a := a) (m := 1) (f := k' + 2) (V := 10 * 0 + dgN p)
      have st1 := fun c8 => rwhole_s (k' + 4) hs hl' c8 (n := n) (a := a) (m := 1) (f := k' + 3) (V := 0) ht h1 (by omega) (by omega) (by omega)
      rw [show 10 * 0 + dgN p = dgN p by omega] at *
      rw [e3]
      refine (jS (v := true) (fun j => ?_)).trans ?_
      ·simp (disch := omega) only [↓reduceIte, ↓jn, gsL, nc]
      ·by_cases hf : 2 ≤ dgN p
       ·have e4 : frontN (p :: 35 :: r') = (1 + 1, dgN p) := by simp only [frontN, h1, hf, if_true]
        rw [ht] at yes
        rw [yes 1 _ e4]
        by_cases hK : 0 < runN (dgN p) false (s.drop (a + 1 + 1))
        ·refine jC fun j => ?_
         refine iT (by first | (simp (disch := omega) only [↓reduceIte, ↓jn, gsL]; done) | rfl) ?_
         refine (st1 j).trans ((go j (by omega) (by omega)).trans ?_)
         rw [if_pos ⟨⟨hf, by omega⟩, hK⟩, if_pos hK]
        ·refine (jS (v := ()) (fun j => ?_)).trans ?_
         ·refine iT (by first | (simp (disch := omega) only [↓reduceIte, ↓jn, gsL]; done) | rfl) ?_
          refine (st1 j).trans ((go j (by omega) (by omega)).trans ?_)
          rw [if_neg (fun h => hK h.2)]
         ·rw [if_neg hK]
       ·have e4 : frontN (p :: 35 :: r') = (0, 10) := by simp only [frontN, h1, hf, if_true, if_false]
        rw [ht] at no
        rw [no e4]
        refine (jS (v := ()) (fun j => ?_)).trans rfl
        refine iT (by first | (simp (disch := omega) only [↓reduceIte, ↓jn, gsL]; done) | rfl) ?_
        refine (st1 j).trans ((go j (by omega) (by omega)).trans ?_)
        rw [if_neg (fun h => hf h.1.1)]
     ·have e4 : frontN (p :: q :: r') = (0, 10) := by simp only [frontN, h1, h2, hq35, if_true, if_false]
      rw [ht] at no
      rw [no e4, e3]
      refine (jS (v := false) (fun j => by simp (disch := omega) only [↓reduceIte, ↓jn, gsL, nc])).trans ?_
      rfl
  ·have e4 : frontN (p :: r) = (0, 10) := by cases r <;> simp only [frontN, h1, if_false]
   have e3 : barN 10 (p :: r) = 0 := by simp only [barN, h1, if_false]
   rw [ht] at no
   rw [no e4, e3]
   refine (jS (v := false) (fun j => rfl)).trans rfl
theorem rbroken_at {k : Nat} {s : List Nat} (hk : s.length < k) (hs : By s) (hl : Sz s) {a : Nat} (ha : a ≤ s.length) : g72 k s (a : Int) = some ((partN (s.drop a) : Nat) : Int) := by
 have R : ∀ i, i ≤ s.length → g76 k s (i : Int) 10 true = some ((runN 10 false (s.drop i) : Nat) : Int) := fun i hi => rrun_at hk hs hl (b := 10) (by decide) hi
 unfold Sz at hl
 unfold g72 partN
 have r0 := R a ha
 have l0 := runN_le 10 false (s.drop a)
 rw [List.length_drop] at l0
 refine bS (by (try simp (disch := omega) only [fwI]); exact r0) ?_
 rw [List.drop_drop]
 generalize runN 10 false (s.drop a) = n at *
 clear r0
 by_cases h0 : n = 0
 ·subst h0
  refine (jS (v := true) (fun j => ?_)).trans rfl
  have e : fW .i64 ((a : Int) + ((0 : Nat) : Int)) = (a : Int) := by rw [fwI (by omega) (by omega)]; omega
  rw [e]
  simp (disch := omega) only [↓reduceIte, ↓jn, gsL]
 rcases Nat.lt_or_ge (a + n) s.length with hn | hn
 ·obtain ⟨c, r, hc, hr, hm, hrl⟩ := dcons hn
  have nc : nthS s ((a : Int) + (n : Int)) = some (c : Int) := nthX (by omega) hc
  have na : ¬ (a : Int) + (n : Int) = a := by omega
  by_cases h46 : c = 46
  ·subst h46
   refine (jS (v := false) (fun j => by simp (disch := omega) only [↓reduceIte, ↓jn, gsL, nc, na])).trans ?_
   refine iF (by first | (simp (disch := omega) only [↓reduceIte, ↓jn, gsL]; done) | rfl) ?_
   have r1 := R (a + n + 1) (by omega)
   have l1 := runN_le 10 false r
   rw [hr] at r1
   have a1 : ∀ j, s.drop (a + n + 1 + j) = r.drop j := by intro j; rw [← List.drop_drop, hr]
   have e1 : fW .i64 (fW .i64 ((a : Int) + (n : Int)) + 1) = ((a + n + 1 : Nat) : Int) := by rw [fwI (n := (a : Int) + (n : Int)) (by omega) (by omega), fwI (by omega) (by omega)]; omega
   simp only [hc, fracN, h0, if_true, if_false]
   rw [e1]
   refine bS (by (try simp (disch := omega) only [fwI]); exact r1) ?_
   generalize runN 10 false r = m at *
   by_cases m0 : m = 0
   ·refine iT (by first | (simp (disch := omega) only [↓reduceIte, ↓jn, gsL, m0]; done) | rfl) ?_
    rw [if_pos m0]; rfl
   ·refine iF (by first | (simp (disch := omega) only [↓reduceIte, ↓jn, gsL]; done) | rfl) ?_
    rw [if_neg m0]
    rcases Nat.lt_or_ge (a + n + 1 + m) s.length with h1 | h1
    ·obtain ⟨e, q, he, hq, hem, hql⟩ := dcons h1
     have he' := he
     rw [a1] at he'
     have ne : nthS s (((a + n + 1 : Nat) : Int) + m) = some (e : Int) := nthX (by omega) he
     rw [he']
     by_cases hE : e = 101 ∨ e = 69
     ·simp only [expN, hE, if_true]
      refine (jS (v := true) (fun j => ?_)).trans ?_
      ·rcases hE with rfl | rfl <;> simp (disch := omega) only [↓reduceIte, ↓jn, gsL, ne]
      have hs' := sgn_le q
      have dd : s.drop (a + n + 1 + m + 1 + sgn q) = q.drop (sgn q) := by rw [← List.drop_drop, hq]
      have o1 := R (a + n + 1 + m + 1 + sgn q) (by omega)
      rw [dd] at o1
      have o3 : runN 10 false (q.drop (sgn q)) ≤ q.length - sgn q := by
       have := runN_le 10 false (q.drop (sgn q))
       rwa [List.length_drop] at this
      generalize hz : runN 10 false (q.drop (sgn q)) = z at *
      have fin : ∀ (x y : Int) (j : Int → Option Int), x = ((a + n + 1 + m + 1 + sgn q : Nat) : Int) → ((g76 k s x 10 true).bind fun x5_2 => if decide (0 < x5_2) then j (fW .i64 (x + x5_2)) else j y) = if 0 < z then j (x + z) else j y := by
       intro x y j hx
       subst hx
       refine bS (by (try simp (disch := omega) only [fwI]); exact o1) ?_
       by_cases h : 0 < z
       ·rw [if_pos h]; refine iT (by first | (simp (disch := omega) only [↓reduceIte, ↓jn, gsL]; done) | rfl) ?_; rw [fwI (by omega) (by omega)]
       ·rw [if_neg h]; refine iF (by first | (simp (disch := omega) only [↓reduceIte, ↓jn, gsL]; done) | rfl) ?_; rfl
      refine (jS (v := if 0 < z then ((a + n + 1 + m + 1 + sgn q + z : Nat) : Int) else ((a + n + 1 + m : Nat) : Int)) (fun j => ?_)).trans ?_
      ·refine iT (by first | (simp (disch := omega) only [↓reduceIte, ↓jn, gsL]; done) | rfl) ?_
       have key : ∀ b : Nat, b = sgn q → (jn (fun (z10 : Int) => (g76 k s z10 10 true).bind fun x5_2 => if (decide (0 < x5_2)) then (j (fW .i64 (z10 + x5_2))) else (j (fW .i64 (((a + n + 1 : Nat) : Int) + m)))) (fun j10 => if decide (b = 1) then (j10 (fW .i64 (fW .i64 (fW .i64 (((a + n + 1 : Nat) : Int) + m) + 1) + 1))) else (j10 (fW .i64 (fW .i64 (((a + n + 1 : Nat) : Int) + m) + 1))))) = j (if 0 < z then ((a + n + 1 + m + 1 + sgn q + z : Nat) : Int) else ((a + n + 1 + m : Nat) : Int)) := by
        intro b hb
        refine (jS (v := ((a + n + 1 + m + 1 + sgn q : Nat) : Int)) (fun j => ?_)).trans ?_
        ·have hb01 : b = 0 ∨ b = 1 := by
          rw [hb]; unfold sgn; split
          ·split <;> simp
          ·simp
         rcases hb01 with rfl | rfl
         ·simp (disch := omega) only [↓reduceIte, ↓jn, gsL]
          exact congrArg j (by omega)
         ·simp (disch := omega) only [↓reduceIte, ↓jn, gsL]
          exact congrArg j (by omega)
        ·refine (fin _ _ j rfl).trans ?_
         by_cases h : 0 < z
         ·rw [if_pos h, if_pos h]; exact congrArg j (by omega)
         ·rw [if_neg h, if_neg h]; rw [fwI (by omega) (by omega)]; exact congrArg j (by omega)
       cases q with
       | nil =>
        simp only [List.length_nil] at hql
        refine (jS (v := false) (fun j => ?_)).trans ?_
        ·simp (disch := omega) only [↓reduceIte, ↓jn, gsL]
        ·exact key 0 rfl
       | cons d q =>
        simp only [List.length_cons] at hql
        have nd : nthS s (((a + n + 1 : Nat) : Int) + m + 1) = some (d : Int) := nthX (i := a + n + 1 + m + 1) (by omega) hq
        by_cases hd : d = 43 ∨ d = 45
        ·refine (jS (v := true) (fun j => ?_)).trans ?_
         ·rcases hd with rfl | rfl <;> simp (disch := omega) only [↓reduceIte, ↓jn, gsL, nd]
         ·exact key 1 (by simp only [sgn, hd, if_true])
        ·have d1 : ¬ (d : Int) = 43 := by omega
         have d2 : ¬ (d : Int) = 45 := by omega
         refine (jS (v := false) (fun j => ?_)).trans ?_
         ·simp (disch := omega) only [↓reduceIte, ↓jn, gsL, nd, d1, d2]
         ·exact key 0 (by simp only [sgn, hd, if_false])
      ·by_cases h : 0 < z
       ·rw [if_pos h, if_pos h]; simp (disch := omega) only [↓reduceIte, ↓jn, gsL]; exact congrArg some (by omega)
       ·rw [if_neg h, if_neg h]; simp (disch := omega) only [↓reduceIte, ↓jn, gsL]; exact congrArg some (by omega)
     ·have e1 : ¬ (e : Int) = 101 := by omega
      have e2 : ¬ (e : Int) = 69 := by omega
      simp only [expN, hE, if_false]
      refine (jS (v := false) (fun j => by simp (disch := omega) only [↓reduceIte, ↓jn, gsL, ne, e1, e2])).trans ?_
      refine (jS (v := ((a + n + 1 + m : Nat) : Int)) (fun j => ?_)).trans ?_
      ·refine iF (by first | (simp (disch := omega) only [↓reduceIte, ↓jn, gsL]; done) | rfl) ?_
       rw [fwI (by omega) (by omega)]; exact congrArg j (by omega)
      ·simp (disch := omega) only [↓reduceIte, ↓jn, gsL]
       exact congrArg some (by omega)
    ·have he : r.drop m = [] := by rw [← a1]; exact dnil h1
     simp only [he, expN]
     refine (jS (v := false) (fun j => by simp (disch := omega) only [↓reduceIte, ↓jn, gsL])).trans ?_
     refine (jS (v := ((a + n + 1 + m : Nat) : Int)) (fun j => ?_)).trans ?_
     ·refine iF (by first | (simp (disch := omega) only [↓reduceIte, ↓jn, gsL]; done) | rfl) ?_
      rw [fwI (by omega) (by omega)]; exact congrArg j (by omega)
     ·simp (disch := omega) only [↓reduceIte, ↓jn, gsL]
      exact congrArg some (by omega)
  ·have c46 : ¬ (c : Int) = 46 := by omega
   refine (jS (v := true) (fun j => by simp (disch := omega) only [↓reduceIte, ↓jn, gsL, nc, na, c46])).trans ?_
   refine iT (by first | (simp (disch := omega) only [↓reduceIte, ↓jn, gsL]; done) | rfl) ?_
   rw [hc]
   simp only [fracN, h0, h46, if_false]; rfl
 ·refine (jS (v := true) (fun j => by simp (disch := omega) only [↓reduceIte, ↓jn, gsL])).trans ?_
  refine iT (by first | (simp (disch := omega) only [↓reduceIte, ↓jn, gsL]; done) | rfl) ?_
  rw [dnil hn]
  simp only [fracN, h0, if_false]; rfl
end Go.Proofs.Ytbmijiibfaacmaa.Am
set_option maxRecDepth 100000
set_option linter.unusedVariables false
namespace Go.Proofs.Ytbmijiibfaacmaa.Am
noncomputable section
open Go
def X45 : Fx Int := ⟨Try.prog, cx, Try.f45, fun r => .int .i64 r, 0, fun _ => H0, cxTi, cxOrd⟩
def g45p0 : Pt := nav [0] (bodyAt Try.f45)
def g45p1 : Pt := nav [0, 0, 0, 0, 0] g45p0
def g45p2 : Pt := nav [0, 0, 0] g45p1
def g45p3 : Pt := nav [0, 0] g45p2
def g45_l1 (k : Nat)  (a0 : (List Nat)) (n : Nat) : Int → Option Int :=
 Nat.rec (motive := fun _ => Int → Option Int) (fun _ => none) (fun _ ih => fun (y1_0 : Int) => jn (fun (z2 : Bool × Int) => if z2.1 then (ih (fW .i64 (z2.2 + 1))) else (some z2.2)) (fun j2 => if (decide (y1_0 < (a0.length : Int))) then ((nthS a0 y1_0).bind fun x0_7 => if (decide (x0_7 = 32)) then (j2 (true, y1_0)) else ((nthS a0 y1_0).bind fun x0_12 => if (decide (x0_12 = 9)) then (j2 (true, y1_0)) else ((nthS a0 y1_0).bind fun x0_18 => if (decide (x0_18 = 10)) then (j2 (true, y1_0)) else ((nthS a0 y1_0).bind fun x0_24 => j2 (decide (x0_24 = 13), y1_0))))) else (j2 (false, y1_0)))) n
theorem g45_l1_s (k : Nat)  (a0 : (List Nat)) (n : Nat) (y1_0 : Int) : g45_l1 k a0 (n + 1) y1_0 = (jn (fun (z2 : Bool × Int) => if z2.1 then ((g45_l1 k a0 n) (fW .i64 (z2.2 + 1))) else (some z2.2)) (fun j2 => if (decide (y1_0 < (a0.length : Int))) then ((nthS a0 y1_0).bind fun x0_7 => if (decide (x0_7 = 32)) then (j2 (true, y1_0)) else ((nthS a0 y1_0).bind fun x0_12 => if (decide (x0_12 = 9)) then (j2 (true, y1_0)) else ((nthS a0 y1_0).bind fun x0_18 => if (decide (x0_18 = 10)) then (j2 (true, y1_0)) else ((nthS a0 y1_0).bind fun x0_24 => j2 (decide (x0_24 = 13), y1_0))))) else (j2 (false, y1_0)))) := rfl
theorem g45_l1_ok (k : Nat)  (a0 : (List Nat))  : ∀ (n : Nat) (y1_0 : Int), Ok X45 g45p1 [(0, .str a0), (1, .int .i64 y1_0)] (mkH []) (g45_l1 k a0 n y1_0)
 | 0, _ => ok_none
 | n + 1, y1_0 => by
  have ih := g45_l1_ok k a0 n
  rw [g45_l1_s]
  refine ok_ent (p' := nav [0] g45p1) (by kernel_rfl) ?_
  let E1 : Env := [(9, .bool (decide (y1_0 < (a0.length : Int)))), (8, .bool (decide (y1_0 < (a0.length : Int)))), (7, .int .i64 (a0.length : Int)), (6, .str a0), (5, .int .i64 y1_0), (0, .str a0), (1, .int .i64 y1_0)]
  refine oR 8 (p' := (atN 5 (ctl1 g45p2))) (eE := E1) (H' := (mkH [])) (by kernel_rfl) ?_
  refine oJ (f := fun (z2 : Bool × Int) => if z2.1 then ((g45_l1 k a0 n) (fW .i64 (z2.2 + 1))) else (some z2.2)) g45p3 (fun (z2 : Bool × Int) => [(0, .str a0), (1, .int .i64 z2.2), (32, .bool z2.1)]) (fun (z2 : Bool × Int) => (mkH [])) (fun z2 => ?_) (fun j2 hj2 => ?_)
  ·refine oS 32 (b := z2.1) (by kernel_rfl) (fun hb => ?_) (fun hb => ?_)
   ·let E2 : Env := [(1, .int .i64 (fW .i64 (z2.2 + 1))), (34, .int .i64 (fW .i64 (z2.2 + 1))), (33, .int .i64 z2.2), (32, .bool true), (0, .str a0), (1, .int .i64 z2.2), (32, .bool z2.1)]
    refine oR 8 (p' := g45p1) (eE := E2) (H' := (mkH [])) (by kernel_rfl) ?_
    refine oK [0, 1] (eE := [(0, .str a0), (1, .int .i64 (fW .i64 (z2.2 + 1)))]) (by kernel_rfl) ?_
    exact ih (fW .i64 (z2.2 + 1))
   ·let E3 : Env := [(4, .int .i64 z2.2), (35, .int .i64 z2.2), (32, .bool false), (0, .str a0), (1, .int .i64 z2.2), (32, .bool z2.1)]
    refine oR 8 (p' := .fin) (eE := E3) (H' := (mkH [])) (by kernel_rfl) ?_
    exact oT (r := z2.2) (xs := [.int .i64 z2.2]) (v := .int .i64 z2.2) (by kernel_rfl) (by kernel_rfl) (by kernel_rfl) (.pures (by kernel_rfl)) (by kernel_rfl)
  ·refine oS 9 (b := decide (y1_0 < (a0.length : Int))) (by kernel_rfl) (fun hb => ?_) (fun hb => ?_)
   ·refine oR 2 (p' := (atN 7 (ctl1 g45p2))) (eE := ((11, .int .i64 y1_0) :: (10, .str a0) :: (9, .bool true) :: E1)) (H' := (mkH [])) (by kernel_rfl) ?_
    refine oH (fun (x0_7 : Int) => (.int .u8 x0_7, (mkH []))) (atN 8 (ctl1 g45p2)) (fun x0_7 => ((12, .int .u8 x0_7) :: (11, .int .i64 y1_0) :: (10, .str a0) :: (9, .bool true) :: E1)) (idxH (by kernel_rfl)) (fun _ => by kernel_rfl) (fun x0_7 hx0_7 => ?_)
    let E4 : Env := ((14, .bool (decide (x0_7 = 32))) :: (13, .bool (decide (x0_7 = 32))) :: (12, .int .u8 x0_7) :: (11, .int .i64 y1_0) :: (10, .str a0) :: (9, .bool true) :: E1)
    refine oR 2 (p' := (atN 10 (ctl1 g45p2))) (eE := E4) (H' := (mkH [])) (by kernel_rfl) ?_
    refine oS 14 (b := decide (x0_7 = 32)) (by kernel_rfl) (fun hb => ?_) (fun hb => ?_)
    ·let E5 : Env := ((32, .bool true) :: (31, .bool true) :: (30, .tuple []) :: (29, .tuple []) :: (28, .tuple []) :: (27, .tuple []) :: (26, .bool true) :: (25, .bool true) :: (24, .tuple []) :: (23, .tuple []) :: (22, .tuple []) :: (21, .tuple []) :: (20, .bool true) :: (19, .bool true) :: (18, .tuple []) :: (17, .tuple []) :: (16, .tuple []) :: (15, .tuple []) :: (14, .bool true) :: E4)
     refine oR 19 (p' := g45p3) (eE := E5) (H' := (mkH [])) (by kernel_rfl) ?_
     refine oK [0, 1, 32] (eE := [(0, .str a0), (1, .int .i64 y1_0), (32, .bool true)]) (by kernel_rfl) ?_
     exact hj2 (true, y1_0)
    ·refine oR 2 (p' := (atN 12 (ctl1 g45p2))) (eE := ((16, .int .i64 y1_0) :: (15, .str a0) :: (14, .bool false) :: E4)) (H' := (mkH [])) (by kernel_rfl) ?_
     refine oH (fun (x0_12 : Int) => (.int .u8 x0_12, (mkH []))) (atN 13 (ctl1 g45p2)) (fun x0_12 => ((17, .int .u8 x0_12) :: (16, .int .i64 y1_0) :: (15, .str a0) :: (14, .bool false) :: E4)) (idxH (by kernel_rfl)) (fun _ => by kernel_rfl) (fun x0_12 hx0_12 => ?_)
     let E6 : Env := ((20, .bool (decide (x0_12 = 9))) :: (19, .bool (decide (x0_12 = 9))) :: (18, .bool (decide (x0_12 = 9))) :: (17, .int .u8 x0_12) :: (16, .int .i64 y1_0) :: (15, .str a0) :: (14, .bool false) :: E4)
     refine oR 3 (p' := (atN 16 (ctl1 g45p2))) (eE := E6) (H' := (mkH [])) (by kernel_rfl) ?_
     refine oS 20 (b := decide (x0_12 = 9)) (by kernel_rfl) (fun hb => ?_) (fun hb => ?_)
     ·let E7 : Env := ((32, .bool true) :: (31, .bool true) :: (30, .tuple []) :: (29, .tuple []) :: (28, .tuple []) :: (27, .tuple []) :: (26, .bool true) :: (25, .bool true) :: (24, .tuple []) :: (23, .tuple []) :: (22, .tuple []) :: (21, .tuple []) :: (20, .bool true) :: E6)
      refine oR 13 (p' := g45p3) (eE := E7) (H' := (mkH [])) (by kernel_rfl) ?_
      refine oK [0, 1, 32] (eE := [(0, .str a0), (1, .int .i64 y1_0), (32, .bool true)]) (by kernel_rfl) ?_
      exact hj2 (true, y1_0)
     ·refine oR 2 (p' := (atN 18 (ctl1 g45p2))) (eE := ((22, .int .i64 y1_0) :: (21, .str a0) :: (20, .bool false) :: E6)) (H' := (mkH [])) (by kernel_rfl) ?_
      refine oH (fun (x0_18 : Int) => (.int .u8 x0_18, (mkH []))) (atN 19 (ctl1 g45p2)) (fun x0_18 => ((23, .int .u8 x0_18) :: (22, .int .i64 y1_0) :: (21, .str a0) :: (20, .bool false) :: E6)) (idxH (by kernel_rfl)) (fun _ => by kernel_rfl) (fun x0_18 hx0_18 => ?_)
      let E8 : Env := ((26, .bool (decide (x0_18 = 10))) :: (25, .bool (decide (x0_18 = 10))) :: (24, .bool (decide (x0_18 = 10))) :: (23, .int .u8 x0_18) :: (22, .int .i64 y1_0) :: (21, .str a0) :: (20, .bool false) :: E6)
      refine oR 3 (p' := (atN 22 (ctl1 g45p2))) (eE := E8) (H' := (mkH [])) (by kernel_rfl) ?_
      refine oS 26 (b := decide (x0_18 = 10)) (by kernel_rfl) (fun hb => ?_) (fun hb => ?_)
      ·let E9 : Env := ((32, .bool true) :: (31, .bool true) :: (30, .tuple []) :: (29, .tuple []) :: (28, .tuple []) :: (27, .tuple []) :: (26, .bool true) :: E8)
       refine oR 7 (p' := g45p3) (eE := E9) (H' := (mkH [])) (by kernel_rfl) ?_
       refine oK [0, 1, 32] (eE := [(0, .str a0), (1, .int .i64 y1_0), (32, .bool true)]) (by kernel_rfl) ?_
       exact hj2 (true, y1_0)
      ·refine oR 2 (p' := (atN 24 (ctl1 g45p2))) (eE := ((28, .int .i64 y1_0) :: (27, .str a0) :: (26, .bool false) :: E8)) (H' := (mkH [])) (by kernel_rfl) ?_
       refine oH (fun (x0_24 : Int) => (.int .u8 x0_24, (mkH []))) (atN 25 (ctl1 g45p2)) (fun x0_24 => ((29, .int .u8 x0_24) :: (28, .int .i64 y1_0) :: (27, .str a0) :: (26, .bool false) :: E8)) (idxH (by kernel_rfl)) (fun _ => by kernel_rfl) (fun x0_24 hx0_24 => ?_)
       let E10 : Env := ((32, .bool (decide (x0_24 = 13))) :: (31, .bool (decide (x0_24 = 13))) :: (30, .bool (decide (x0_24 = 13))) :: (29, .int .u8 x0_24) :: (28, .int .i64 y1_0) :: (27, .str a0) :: (26, .bool false) :: E8)
       refine oR 4 (p' := g45p3) (eE := E10) (H' := (mkH [])) (by kernel_rfl) ?_
       refine oK [0, 1, 32] (eE := [(0, .str a0), (1, .int .i64 y1_0), (32, .bool (decide (x0_24 = 13)))]) (by kernel_rfl) ?_
       exact hj2 (decide (x0_24 = 13), y1_0)
   ·let E11 : Env := ((32, .bool false) :: (31, .tuple []) :: (30, .tuple []) :: (29, .tuple []) :: (28, .tuple []) :: (27, .tuple []) :: (26, .tuple []) :: (25, .tuple []) :: (24, .tuple []) :: (23, .tuple []) :: (22, .tuple []) :: (21, .tuple []) :: (20, .tuple []) :: (19, .tuple []) :: (18, .tuple []) :: (17, .tuple []) :: (16, .tuple []) :: (15, .tuple []) :: (14, .tuple []) :: (13, .tuple []) :: (12, .tuple []) :: (11, .tuple []) :: (10, .tuple []) :: (9, .bool false) :: E1)
    refine oR 24 (p' := g45p3) (eE := E11) (H' := (mkH [])) (by kernel_rfl) ?_
    refine oK [0, 1, 32] (eE := [(0, .str a0), (1, .int .i64 y1_0), (32, .bool false)]) (by kernel_rfl) ?_
    exact hj2 (false, y1_0)
def g45 (k : Nat) (a0 : (List Nat)) (a1 : Int) : Option Int :=
 g45_l1 k a0 k a1
theorem g45_ok (k : Nat) (a0 : (List Nat)) (a1 : Int) (r : Int) (h : g45 k a0 a1 = some r) : PureOk Try.prog 45 [.str a0, .int .i64 a1] (.int .i64 r) := by
 refine pure_of X45 (fun _ => rfl) Try.func45 (by decide +kernel) (by kernel_rfl) (t := g45 k a0 a1) ?_ h
 unfold g45
 refine oE (eE := [(0, .str a0), (1, .int .i64 a1)]) (by kernel_rfl) ?_
 refine oR 7 (p' := g45p1) (eE := [(4, .int .i64 0), (0, .str a0), (1, .int .i64 a1)]) (H' := (mkH [])) (by kernel_rfl) ?_
 refine oK [0, 1] (eE := [(0, .str a0), (1, .int .i64 a1)]) (by kernel_rfl) ?_
 exact (g45_l1_ok k a0 k) a1
end
end Go.Proofs.Ytbmijiibfaacmaa.Am
set_option maxRecDepth 100000
set_option linter.unusedVariables false
namespace Go.Proofs.Ytbmijiibfaacmaa.Am
noncomputable section
open Go
def X57 : Fx (List Nat) := ⟨Try.prog, cx, Try.f57, fun r => .str r, 0, fun _ => H0, cxTi, cxOrd⟩
def g57p0 : Pt := nav [0] (bodyAt Try.f57)
def g57p1 : Pt := nav [0, 0, 0] g57p0
def g57p2 : Pt := nav [0, 0, 0, 0, 0] g57p1
def g57p3 : Pt := nav [0, 0, 0] g57p2
def g57p4 : Pt := nav [0, 0] g57p3
def g57p6 : Pt := nav [2, 0, 0] g57p4
def g57_l2 (k : Nat)  (a0 : (List Nat)) (n : Nat) : Int → Option (List Nat) :=
 Nat.rec (motive := fun _ => Int → Option (List Nat)) (fun _ => none) (fun _ ih => fun (y2_0 : Int) => jn (fun (z3 : Bool × Int) => if z3.1 then (ih (fW .i64 (z3.2 - 1))) else ((subL a0 none (some z3.2)).bind fun x1_2 => some x1_2)) (fun j3 => if (decide (0 < y2_0)) then ((nthS a0 (fW .i64 (y2_0 - 1))).bind fun x0_6 => if (decide (x0_6 = 32)) then (j3 (true, y2_0)) else ((nthS a0 (fW .i64 (y2_0 - 1))).bind fun x0_12 => if (decide (x0_12 = 9)) then (j3 (true, y2_0)) else ((nthS a0 (fW .i64 (y2_0 - 1))).bind fun x0_19 => j3 (decide (x0_19 = 13), y2_0)))) else (j3 (false, y2_0)))) n
theorem g57_l2_s (k : Nat)  (a0 : (List Nat)) (n : Nat) (y2_0 : Int) : g57_l2 k a0 (n + 1) y2_0 = (jn (fun (z3 : Bool × Int) => if z3.1 then ((g57_l2 k a0 n) (fW .i64 (z3.2 - 1))) else ((subL a0 none (some z3.2)).bind fun x1_2 => some x1_2)) (fun j3 => if (decide (0 < y2_0)) then ((nthS a0 (fW .i64 (y2_0 - 1))).bind fun x0_6 => if (decide (x0_6 = 32)) then (j3 (true, y2_0)) else ((nthS a0 (fW .i64 (y2_0 - 1))).bind fun x0_12 => if (decide (x0_12 = 9)) then (j3 (true, y2_0)) else ((nthS a0 (fW .i64 (y2_0 - 1))).bind fun x0_19 => j3 (decide (x0_19 = 13), y2_0)))) else (j3 (false, y2_0)))) := rfl
theorem g57_l2_ok (k : Nat)  (a0 : (List Nat))  : ∀ (n : Nat) (y2_0 : Int), Ok X57 g57p2 [(0, .str a0), (3, .int .i64 y2_0)] (mkH []) (g57_l2 k a0 n y2_0)
 | 0, _ => ok_none
 | n + 1, y2_0 => by
  have ih := g57_l2_ok k a0 n
  rw [g57_l2_s]
  refine ok_ent (p' := nav [0] g57p2) (by kernel_rfl) ?_
  let E2 : Env := [(8, .bool (decide (0 < y2_0))), (7, .bool (decide (0 < y2_0))), (6, .int .i64 y2_0), (0, .str a0), (3, .int .i64 y2_0)]
  refine oR 6 (p' := (atN 3 (ctl1 g57p3))) (eE := E2) (H' := (mkH [])) (by kernel_rfl) ?_
  refine oJ (f := fun (z3 : Bool × Int) => if z3.1 then ((g57_l2 k a0 n) (fW .i64 (z3.2 - 1))) else ((subL a0 none (some z3.2)).bind fun x1_2 => some x1_2)) g57p4 (fun (z3 : Bool × Int) => [(0, .str a0), (3, .int .i64 z3.2), (28, .bool z3.1)]) (fun (z3 : Bool × Int) => (mkH [])) (fun z3 => ?_) (fun j3 hj3 => ?_)
  ·refine oS 28 (b := z3.1) (by kernel_rfl) (fun hb => ?_) (fun hb => ?_)
   ·let E3 : Env := [(3, .int .i64 (fW .i64 (z3.2 - 1))), (30, .int .i64 (fW .i64 (z3.2 - 1))), (29, .int .i64 z3.2), (28, .bool true), (0, .str a0), (3, .int .i64 z3.2), (28, .bool z3.1)]
    refine oR 8 (p' := g57p2) (eE := E3) (H' := (mkH [])) (by kernel_rfl) ?_
    refine oK [0, 3] (eE := [(0, .str a0), (3, .int .i64 (fW .i64 (z3.2 - 1)))]) (by kernel_rfl) ?_
    exact ih (fW .i64 (z3.2 - 1))
   ·let E4 : Env := [(32, .int .i64 z3.2), (31, .str a0), (28, .bool false), (0, .str a0), (3, .int .i64 z3.2), (28, .bool z3.1)]
    refine oR 6 (p' := (atN 2 (ctl1 g57p6))) (eE := E4) (H' := (mkH [])) (by kernel_rfl) ?_
    refine oH (fun (x1_2 : (List Nat)) => (.str x1_2, (mkH []))) (atN 3 (ctl1 g57p6)) (fun x1_2 => ((33, .str x1_2) :: E4)) (subH none (some z3.2) (by kernel_rfl)) (fun _ => by kernel_rfl) (fun x1_2 hx1_2 => ?_)
    refine oR 3 (p' := .fin) (eE := ((2, .str x1_2) :: (33, .str x1_2) :: E4)) (H' := (mkH [])) (by kernel_rfl) ?_
    exact oT (r := x1_2) (xs := [.str x1_2]) (v := .str x1_2) (by kernel_rfl) (by kernel_rfl) (by kernel_rfl) (.pures (by kernel_rfl)) (by kernel_rfl)
  ·refine oS 8 (b := decide (0 < y2_0)) (by kernel_rfl) (fun hb => ?_) (fun hb => ?_)
   ·refine oR 3 (p' := (atN 6 (ctl1 g57p3))) (eE := ((11, .int .i64 (fW .i64 (y2_0 - 1))) :: (10, .int .i64 y2_0) :: (9, .str a0) :: (8, .bool true) :: E2)) (H' := (mkH [])) (by kernel_rfl) ?_
    refine oH (fun (x0_6 : Int) => (.int .u8 x0_6, (mkH []))) (atN 7 (ctl1 g57p3)) (fun x0_6 => ((12, .int .u8 x0_6) :: (11, .int .i64 (fW .i64 (y2_0 - 1))) :: (10, .int .i64 y2_0) :: (9, .str a0) :: (8, .bool true) :: E2)) (idxH (by kernel_rfl)) (fun _ => by kernel_rfl) (fun x0_6 hx0_6 => ?_)
    let E5 : Env := ((14, .bool (decide (x0_6 = 32))) :: (13, .bool (decide (x0_6 = 32))) :: (12, .int .u8 x0_6) :: (11, .int .i64 (fW .i64 (y2_0 - 1))) :: (10, .int .i64 y2_0) :: (9, .str a0) :: (8, .bool true) :: E2)
    refine oR 2 (p' := (atN 9 (ctl1 g57p3))) (eE := E5) (H' := (mkH [])) (by kernel_rfl) ?_
    refine oS 14 (b := decide (x0_6 = 32)) (by kernel_rfl) (fun hb => ?_) (fun hb => ?_)
    ·let E6 : Env := ((28, .bool true) :: (27, .bool true) :: (26, .tuple []) :: (25, .tuple []) :: (24, .tuple []) :: (23, .tuple []) :: (22, .tuple []) :: (21, .bool true) :: (20, .bool true) :: (19, .tuple []) :: (18, .tuple []) :: (17, .tuple []) :: (16, .tuple []) :: (15, .tuple []) :: (14, .bool true) :: E5)
     refine oR 15 (p' := g57p4) (eE := E6) (H' := (mkH [])) (by kernel_rfl) ?_
     refine oK [0, 3, 28] (eE := [(0, .str a0), (3, .int .i64 y2_0), (28, .bool true)]) (by kernel_rfl) ?_
     exact hj3 (true, y2_0)
    ·refine oR 3 (p' := (atN 12 (ctl1 g57p3))) (eE := ((17, .int .i64 (fW .i64 (y2_0 - 1))) :: (16, .int .i64 y2_0) :: (15, .str a0) :: (14, .bool false) :: E5)) (H' := (mkH [])) (by kernel_rfl) ?_
     refine oH (fun (x0_12 : Int) => (.int .u8 x0_12, (mkH []))) (atN 13 (ctl1 g57p3)) (fun x0_12 => ((18, .int .u8 x0_12) :: (17, .int .i64 (fW .i64 (y2_0 - 1))) :: (16, .int .i64 y2_0) :: (15, .str a0) :: (14, .bool false) :: E5)) (idxH (by kernel_rfl)) (fun _ => by kernel_rfl) (fun x0_12 hx0_12 => ?_)
     let E7 : Env := ((21, .bool (decide (x0_12 = 9))) :: (20, .bool (decide (x0_12 = 9))) :: (19, .bool (decide (x0_12 = 9))) :: (18, .int .u8 x0_12) :: (17, .int .i64 (fW .i64 (y2_0 - 1))) :: (16, .int .i64 y2_0) :: (15, .str a0) :: (14, .bool false) :: E5)
     refine oR 3 (p' := (atN 16 (ctl1 g57p3))) (eE := E7) (H' := (mkH [])) (by kernel_rfl) ?_
     refine oS 21 (b := decide (x0_12 = 9)) (by kernel_rfl) (fun hb => ?_) (fun hb => ?_)
     ·let E8 : Env := ((28, .bool true) :: (27, .bool true) :: (26, .tuple []) :: (25, .tuple []) :: (24, .tuple []) :: (23, .tuple []) :: (22, .tuple []) :: (21, .bool true) :: E7)
      refine oR 8 (p' := g57p4) (eE := E8) (H' := (mkH [])) (by kernel_rfl) ?_
      refine oK [0, 3, 28] (eE := [(0, .str a0), (3, .int .i64 y2_0), (28, .bool true)]) (by kernel_rfl) ?_
      exact hj3 (true, y2_0)
     ·refine oR 3 (p' := (atN 19 (ctl1 g57p3))) (eE := ((24, .int .i64 (fW .i64 (y2_0 - 1))) :: (23, .int .i64 y2_0) :: (22, .str a0) :: (21, .bool false) :: E7)) (H' := (mkH [])) (by kernel_rfl) ?_
      refine oH (fun (x0_19 : Int) => (.int .u8 x0_19, (mkH []))) (atN 20 (ctl1 g57p3)) (fun x0_19 => ((25, .int .u8 x0_19) :: (24, .int .i64 (fW .i64 (y2_0 - 1))) :: (23, .int .i64 y2_0) :: (22, .str a0) :: (21, .bool false) :: E7)) (idxH (by kernel_rfl)) (fun _ => by kernel_rfl) (fun x0_19 hx0_19 => ?_)
      let E9 : Env := ((28, .bool (decide (x0_19 = 13))) :: (27, .bool (decide (x0_19 = 13))) :: (26, .bool (decide (x0_19 = 13))) :: (25, .int .u8 x0_19) :: (24, .int .i64 (fW .i64 (y2_0 - 1))) :: (23, .int .i64 y2_0) :: (22, .str a0) :: (21, .bool false) :: E7)
      refine oR 4 (p' := g57p4) (eE := E9) (H' := (mkH [])) (by kernel_rfl) ?_
      refine oK [0, 3, 28] (eE := [(0, .str a0), (3, .int .i64 y2_0), (28, .bool (decide (x0_19 = 13)))]) (by kernel_rfl) ?_
      exact hj3 (decide (x0_19 = 13), y2_0)
   ·let E10 : Env := ((28, .bool false) :: (27, .tuple []) :: (26, .tuple []) :: (25, .tuple []) :: (24, .tuple []) :: (23, .tuple []) :: (22, .tuple []) :: (21, .tuple []) :: (20, .tuple []) :: (19, .tuple []) :: (18, .tuple []) :: (17, .tuple []) :: (16, .tuple []) :: (15, .tuple []) :: (14, .tuple []) :: (13, .tuple []) :: (12, .tuple []) :: (11, .tuple []) :: (10, .tuple []) :: (9, .tuple []) :: (8, .bool false) :: E2)
    refine oR 21 (p' := g57p4) (eE := E10) (H' := (mkH [])) (by kernel_rfl) ?_
    refine oK [0, 3, 28] (eE := [(0, .str a0), (3, .int .i64 y2_0), (28, .bool false)]) (by kernel_rfl) ?_
    exact hj3 (false, y2_0)
def g57 (k : Nat) (a0 : (List Nat)) : Option (List Nat) :=
 g57_l2 k a0 k (a0.length : Int)
theorem g57_ok (k : Nat) (a0 : (List Nat)) (r : (List Nat)) (h : g57 k a0 = some r) : PureOk Try.prog 57 [.str a0] (.str r) := by
 refine pure_of X57 (fun _ => rfl) Try.func57 (by decide +kernel) (by kernel_rfl) (t := g57 k a0) ?_ h
 unfold g57
 refine oE (eE := [(0, .str a0)]) (by kernel_rfl) ?_
 let E1 : Env := [(3, .int .i64 (a0.length : Int)), (5, .int .i64 (a0.length : Int)), (4, .str a0), (2, .str []), (0, .str a0)]
 refine oR 13 (p' := g57p2) (eE := E1) (H' := (mkH [])) (by kernel_rfl) ?_
 refine oK [0, 3] (eE := [(0, .str a0), (3, .int .i64 (a0.length : Int))]) (by kernel_rfl) ?_
 exact (g57_l2_ok k a0 k) (a0.length : Int)
end
end Go.Proofs.Ytbmijiibfaacmaa.Am
set_option maxRecDepth 100000
set_option linter.unusedVariables false
namespace Go.Proofs.Ytbmijiibfaacmaa.Am
noncomputable section
open Go
def X59 : Fx (S46 × Int) := ⟨Try.prog, cx, Try.f59, fun r => .tuple [.agg [.int .i64 r.1.f0, .str r.1.f1, .int .i64 r.1.f2], .int .i64 r.2], 0, fun _ => H0, cxTi, cxOrd⟩
def g59p0 : Pt := nav [0] (bodyAt Try.f59)
def g59p1 : Pt := nav [0, 0, 0] g59p0
def g59p2 : Pt := nav [0, 0, 0, 0] g59p1
def g59p3 : Pt := nav [0, 0] g59p2
def g59p4 : Pt := nav [1] g59p3
def g59p5 : Pt := nav [2, 0, 0] g59p3
def g59p6 : Pt := nav [0, 0, 0, 0] g59p5
def g59p7 : Pt := nav [0, 0] g59p6
def g59p9 : Pt := nav [2, 0, 0, 0] g59p7
def g59p11 : Pt := nav [0, 0] g59p9
def g59p12 : Pt := nav [1, 0] g59p11
def g59p13 : Pt := nav [2, 0, 0] g59p11
def g59p14 : Pt := nav [0, 0, 0, 0] g59p12
def g59p15 : Pt := nav [0, 0, 0, 0] g59p14
def g59p16 : Pt := nav [0, 0, 0] g59p15
def g59p17 : Pt := nav [0, 0] g59p16
def g59p18 : Pt := nav [1, 0, 0, 0] g59p17
def g59p19 : Pt := nav [2, 0, 0] g59p17
def g59p20 : Pt := nav [0, 0] g59p18
def g59p21 : Pt := nav [0, 0] g59p19
def g59_l9 (k : Nat) (c11 : Unit → Option (S46 × Int)) (a0 : (List Nat)) (a1 : Int) (z6 : Int × Int) (n : Nat) : Bool → Int → Option (S46 × Int) :=
 Nat.rec (motive := fun _ => Bool → Int → Option (S46 × Int)) (fun _ _ => none) (fun _ ih => fun (y9_0 : Bool) (y9_1 : Int) => if (decide (y9_1 < fW .i64 (a1 + z6.2))) then (jn (fun (z10 : Bool × Int) => ih z10.1 (fW .i64 (z10.2 + 1))) (fun j10 => if y9_0 then (j10 (true, y9_1)) else ((nthS a0 y9_1).bind fun x5_4 => j10 (decide (x5_4 = 35), y9_1)))) else (if (!y9_0) then (some ((⟨(0 : Int), ([] : List Nat), (0 : Int)⟩ : S46), (4 : Int))) else (c11 ()))) n
theorem g59_l9_s (k : Nat) (c11 : Unit → Option (S46 × Int)) (a0 : (List Nat)) (a1 : Int) (z6 : Int × Int) (n : Nat) (y9_0 : Bool) (y9_1 : Int) : g59_l9 k c11 a0 a1 z6 (n + 1) y9_0 y9_1 = (if (decide (y9_1 < fW .i64 (a1 + z6.2))) then (jn (fun (z10 : Bool × Int) => (g59_l9 k c11 a0 a1 z6 n) z10.1 (fW .i64 (z10.2 + 1))) (fun j10 => if y9_0 then (j10 (true, y9_1)) else ((nthS a0 y9_1).bind fun x5_4 => j10 (decide (x5_4 = 35), y9_1)))) else (if (!y9_0) then (some ((⟨(0 : Int), ([] : List Nat), (0 : Int)⟩ : S46), (4 : Int))) else (c11 ()))) := rfl
theorem g59_l9_ok (k : Nat) (c11 : Unit → Option (S46 × Int)) (a0 : (List Nat)) (a1 : Int) (z6 : Int × Int) (hc11 : ∀ z11 : Unit, Ok X59 g59p13 ((fun (z11 : Unit) => [(0, .str a0), (1, .int .i64 a1), (4, .ptr 0 3 0), (6, .int .i64 z6.1), (8, .int .i64 (fW .i64 (a1 + z6.2)))]) z11) ((fun (z11 : Unit) => (mkH [⟨[.int .i64 0, .str [], .int .i64 0], 0, false⟩])) z11) (c11 z11)) : ∀ (n : Nat) (y9_0 : Bool) (y9_1 : Int), Ok X59 g59p15 [(0, .str a0), (1, .int .i64 a1), (4, .ptr 0 3 0), (6, .int .i64 z6.1), (8, .int .i64 (fW .i64 (a1 + z6.2))), (9, .bool y9_0), (10, .int .i64 y9_1)] (mkH [⟨[.int .i64 0, .str [], .int .i64 0], 0, false⟩]) (g59_l9 k c11 a0 a1 z6 n y9_0 y9_1)
 | 0, _, _ => ok_none
 | n + 1, y9_0, y9_1 => by
  have ih := g59_l9_ok k c11 a0 a1 z6 hc11 n
  rw [g59_l9_s]
  refine ok_ent (p' := nav [0] g59p15) (by kernel_rfl) ?_
  let E8 : Env := [(54, .bool (decide (y9_1 < fW .i64 (a1 + z6.2)))), (53, .int .i64 (fW .i64 (a1 + z6.2))), (52, .int .i64 y9_1), (0, .str a0), (1, .int .i64 a1), (4, .ptr 0 3 0), (6, .int .i64 z6.1), (8, .int .i64 (fW .i64 (a1 + z6.2))), (9, .bool y9_0), (10, .int .i64 y9_1)]
  refine oR 7 (p' := g59p17) (eE := E8) (H' := (mkH [⟨[.int .i64 0, .str [], .int .i64 0], 0, false⟩])) (by kernel_rfl) ?_
  refine oS 54 (b := decide (y9_1 < fW .i64 (a1 + z6.2))) (by kernel_rfl) (fun hb => ?_) (fun hb => ?_)
  ·refine oR 7 (p' := (atN 2 (ctl1 g59p18))) (eE := ((58, .bool y9_0) :: (57, .bool y9_0) :: (54, .bool true) :: E8)) (H' := (mkH [⟨[.int .i64 0, .str [], .int .i64 0], 0, false⟩])) (by kernel_rfl) ?_
   refine oJ (f := fun (z10 : Bool × Int) => (g59_l9 k c11 a0 a1 z6 n) z10.1 (fW .i64 (z10.2 + 1))) g59p20 (fun (z10 : Bool × Int) => [(0, .str a0), (1, .int .i64 a1), (4, .ptr 0 3 0), (6, .int .i64 z6.1), (8, .int .i64 (fW .i64 (a1 + z6.2))), (9, .bool z10.1), (10, .int .i64 z10.2)]) (fun (z10 : Bool × Int) => (mkH [⟨[.int .i64 0, .str [], .int .i64 0], 0, false⟩])) (fun z10 => ?_) (fun j10 hj10 => ?_)
   ·let E9 : Env := [(10, .int .i64 (fW .i64 (z10.2 + 1))), (56, .int .i64 (fW .i64 (z10.2 + 1))), (55, .int .i64 z10.2), (0, .str a0), (1, .int .i64 a1), (4, .ptr 0 3 0), (6, .int .i64 z6.1), (8, .int .i64 (fW .i64 (a1 + z6.2))), (9, .bool z10.1), (10, .int .i64 z10.2)]
    refine oR 5 (p' := g59p15) (eE := E9) (H' := (mkH [⟨[.int .i64 0, .str [], .int .i64 0], 0, false⟩])) (by kernel_rfl) ?_
    refine oK [0, 1, 4, 6, 8, 9, 10] (eE := [(0, .str a0), (1, .int .i64 a1), (4, .ptr 0 3 0), (6, .int .i64 z6.1), (8, .int .i64 (fW .i64 (a1 + z6.2))), (9, .bool z10.1), (10, .int .i64 (fW .i64 (z10.2 + 1)))]) (by kernel_rfl) ?_
    exact ih z10.1 (fW .i64 (z10.2 + 1))
   ·refine oS 58 (b := y9_0) (by kernel_rfl) (fun hb => ?_) (fun hb => ?_)
    ·let E10 : Env := ((9, .bool true) :: (63, .bool true) :: (62, .tuple []) :: (61, .tuple []) :: (60, .tuple []) :: (59, .tuple []) :: (58, .bool true) :: (58, .bool y9_0) :: (57, .bool y9_0) :: (54, .bool true) :: E8)
     refine oR 7 (p' := g59p20) (eE := E10) (H' := (mkH [⟨[.int .i64 0, .str [], .int .i64 0], 0, false⟩])) (by kernel_rfl) ?_
     refine oK [0, 1, 4, 6, 8, 9, 10] (eE := [(0, .str a0), (1, .int .i64 a1), (4, .ptr 0 3 0), (6, .int .i64 z6.1), (8, .int .i64 (fW .i64 (a1 + z6.2))), (9, .bool true), (10, .int .i64 y9_1)]) (by kernel_rfl) ?_
     exact hj10 (true, y9_1)
    ·let E11 : Env := ((60, .int .i64 y9_1) :: (59, .str a0) :: (58, .bool false) :: (58, .bool y9_0) :: (57, .bool y9_0) :: (54, .bool true) :: E8)
     refine oR 2 (p' := (atN 4 (ctl1 g59p18))) (eE := E11) (H' := (mkH [⟨[.int .i64 0, .str [], .int .i64 0], 0, false⟩])) (by kernel_rfl) ?_
     refine oH (fun (x5_4 : Int) => (.int .u8 x5_4, (mkH [⟨[.int .i64 0, .str [], .int .i64 0], 0, false⟩]))) (atN 5 (ctl1 g59p18)) (fun x5_4 => ((61, .int .u8 x5_4) :: E11)) (idxH (by kernel_rfl)) (fun _ => by kernel_rfl) (fun x5_4 hx5_4 => ?_)
     refine oR 4 (p' := g59p20) (eE := ((9, .bool (decide (x5_4 = 35))) :: (63, .bool (decide (x5_4 = 35))) :: (62, .bool (decide (x5_4 = 35))) :: (61, .int .u8 x5_4) :: E11)) (H' := (mkH [⟨[.int .i64 0, .str [], .int .i64 0], 0, false⟩])) (by kernel_rfl) ?_
     refine oK [0, 1, 4, 6, 8, 9, 10] (eE := [(0, .str a0), (1, .int .i64 a1), (4, .ptr 0 3 0), (6, .int .i64 z6.1), (8, .int .i64 (fW .i64 (a1 + z6.2))), (9, .bool (decide (x5_4 = 35))), (10, .int .i64 y9_1)]) (by kernel_rfl) ?_
     exact hj10 (decide (x5_4 = 35), y9_1)
  ·refine oR 7 (p' := g59p21) (eE := ((65, .bool (!y9_0)) :: (64, .bool y9_0) :: (54, .bool false) :: E8)) (H' := (mkH [⟨[.int .i64 0, .str [], .int .i64 0], 0, false⟩])) (by kernel_rfl) ?_
   refine oK [0, 1, 4, 6, 8, 65] (eE := [(0, .str a0), (1, .int .i64 a1), (4, .ptr 0 3 0), (6, .int .i64 z6.1), (8, .int .i64 (fW .i64 (a1 + z6.2))), (65, .bool (!y9_0))]) (by kernel_rfl) ?_
   refine oS 65 (b := !y9_0) (by kernel_rfl) (fun hb => ?_) (fun hb => ?_)
   ·let E12 : Env := [(5, .int .i64 4), (66, .agg [.int .i64 0, .str [], .int .i64 0]), (65, .bool true), (0, .str a0), (1, .int .i64 a1), (4, .ptr 0 3 0), (6, .int .i64 z6.1), (8, .int .i64 (fW .i64 (a1 + z6.2))), (65, .bool (!y9_0))]
    refine oR 8 (p' := .fin) (eE := E12) (H' := (mkH [⟨[.int .i64 0, .str [], .int .i64 0], 3, false⟩])) (by kernel_rfl) ?_
    exact oT (r := ((⟨(0 : Int), ([] : List Nat), (0 : Int)⟩ : S46), (4 : Int))) (xs := [.agg [.int .i64 0, .str [], .int .i64 0], .int .i64 4]) (v := .tuple [.agg [.int .i64 0, .str [], .int .i64 0], .int .i64 4]) (by kernel_rfl) (by kernel_rfl) (by kernel_rfl) (.pures (by kernel_rfl)) (by kernel_rfl)
   ·let E13 : Env := [(65, .bool false), (0, .str a0), (1, .int .i64 a1), (4, .ptr 0 3 0), (6, .int .i64 z6.1), (8, .int .i64 (fW .i64 (a1 + z6.2))), (65, .bool (!y9_0))]
    refine oR 3 (p' := g59p13) (eE := E13) (H' := (mkH [⟨[.int .i64 0, .str [], .int .i64 0], 0, false⟩])) (by kernel_rfl) ?_
    refine oK [0, 1, 4, 6, 8] (eE := [(0, .str a0), (1, .int .i64 a1), (4, .ptr 0 3 0), (6, .int .i64 z6.1), (8, .int .i64 (fW .i64 (a1 + z6.2)))]) (by kernel_rfl) ?_
    exact hc11 ()
def g59 (k : Nat) (a0 : (List Nat)) (a1 : Int) : Option (S46 × Int) :=
 (g72 k a0 a1).bind fun x0_2 => jn (fun (z6 : Int × Int) => jn (fun (z7 : Bool) => if z7 then (some ((⟨(0 : Int), ([] : List Nat), (0 : Int)⟩ : S46), (4 : Int))) else (jn (fun (z8 : Bool) => jn (fun (z11 : Unit) => (subL a0 (some a1) (some (fW .i64 (a1 + z6.2)))).bind fun x4_4 => some ((⟨z6.1, x4_4, a1⟩ : S46), (0 : Int))) (fun j11 => if z8 then (g59_l9 k j11 a0 a1 z6 k false a1) else (j11 ()))) (fun j8 => if (decide (z6.1 = 3)) then (if (decide (fW .i64 (a1 + z6.2) < (a0.length : Int))) then ((nthS a0 (fW .i64 (a1 + z6.2))).bind fun x3_11 => j8 (decide (x3_11 = 35))) else (j8 false)) else (j8 false)))) (fun j7 => if (decide (z6.2 = 0)) then (j7 true) else (if (decide (fW .i64 (a1 + z6.2) < (a0.length : Int))) then ((nthS a0 (fW .i64 (a1 + z6.2))).bind fun x2_10 => (g74 k x2_10).bind fun x2_11 => j7 x2_11) else (j7 false)))) (fun j6 => if (decide (x0_2 = 0)) then ((g73 k a0 a1).bind fun x1_2 => j6 (3, x1_2)) else (j6 (4, x0_2)))
theorem g59_ok (k : Nat) (a0 : (List Nat)) (a1 : Int) (r : (S46 × Int)) (h : g59 k a0 a1 = some r) : PureOk Try.prog 59 [.str a0, .int .i64 a1] (.tuple [.agg [.int .i64 r.1.f0, .str r.1.f1, .int .i64 r.1.f2], .int .i64 r.2]) := by
 refine pure_of X59 (fun _ => rfl) Try.func59 (by decide +kernel) (by kernel_rfl) (t := g59 k a0 a1) ?_ h
 unfold g59
 refine oE (eE := [(0, .str a0), (1, .int .i64 a1)]) (by kernel_rfl) ?_
 let E1 : Env := [(12, .int .i64 a1), (11, .str a0), (5, .int .i64 0), (4, .ptr 0 3 0), (0, .str a0), (1, .int .i64 a1)]
 refine oR 9 (p' := (atN 2 (ctl1 g59p1))) (eE := E1) (H' := (mkH [⟨[.int .i64 0, .str [], .int .i64 0], 0, false⟩])) (by kernel_rfl) ?_
 refine oC (fun (x0_2 : Int) => .int .i64 x0_2) (atN 3 (ctl1 g59p1)) (fun x0_2 => ((13, .int .i64 x0_2) :: E1)) (fi := 72) (args := [.str a0, .int .i64 a1]) (by kernel_rfl) (by kernel_rfl) (fun _ => by kernel_rfl) (fun r h => g72_ok k a0 a1 r h) (fun _ => by kernel_rfl) (fun x0_2 hx0_2 => ?_)
 let E2 : Env := ((15, .bool (decide (x0_2 = 0))) :: (14, .int .i64 x0_2) :: (7, .int .i64 x0_2) :: (6, .int .i64 4) :: (13, .int .i64 x0_2) :: E1)
 refine oR 9 (p' := g59p3) (eE := E2) (H' := (mkH [⟨[.int .i64 0, .str [], .int .i64 0], 0, false⟩])) (by kernel_rfl) ?_
 refine oJ (f := fun (z6 : Int × Int) => jn (fun (z7 : Bool) => if z7 then (some ((⟨(0 : Int), ([] : List Nat), (0 : Int)⟩ : S46), (4 : Int))) else (jn (fun (z8 : Bool) => jn (fun (z11 : Unit) => (subL a0 (some a1) (some (fW .i64 (a1 + z6.2)))).bind fun x4_4 => some ((⟨z6.1, x4_4, a1⟩ : S46), (0 : Int))) (fun j11 => if z8 then (g59_l9 k j11 a0 a1 z6 k false a1) else (j11 ()))) (fun j8 => if (decide (z6.1 = 3)) then (if (decide (fW .i64 (a1 + z6.2) < (a0.length : Int))) then ((nthS a0 (fW .i64 (a1 + z6.2))).bind fun x3_11 => j8 (decide (x3_11 = 35))) else (j8 false)) else (j8 false)))) (fun j7 => if (decide (z6.2 = 0)) then (j7 true) else (if (decide (fW .i64 (a1 + z6.2) < (a0.length : Int))) then ((nthS a0 (fW .i64 (a1 + z6.2))).bind fun x2_10 => (g74 k x2_10).bind fun x2_11 => j7 x2_11) else (j7 false)))) g59p5 (fun (z6 : Int × Int) => [(0, .str a0), (1, .int .i64 a1), (4, .ptr 0 3 0), (6, .int .i64 z6.1), (7, .int .i64 z6.2)]) (fun (z6 : Int × Int) => (mkH [⟨[.int .i64 0, .str [], .int .i64 0], 0, false⟩])) (fun z6 => ?_) (fun j6 hj6 => ?_)
 ·let E3 : Env := [(24, .bool (decide (z6.2 = 0))), (23, .bool (decide (z6.2 = 0))), (22, .int .i64 z6.2), (8, .int .i64 (fW .i64 (a1 + z6.2))), (21, .int .i64 (fW .i64 (a1 + z6.2))), (20, .int .i64 z6.2), (19, .int .i64 a1), (0, .str a0), (1, .int .i64 a1), (4, .ptr 0 3 0), (6, .int .i64 z6.1), (7, .int .i64 z6.2)]
  refine oR 12 (p' := (atN 3 (ctl1 g59p6))) (eE := E3) (H' := (mkH [⟨[.int .i64 0, .str [], .int .i64 0], 0, false⟩])) (by kernel_rfl) ?_
  refine oJ (f := fun (z7 : Bool) => if z7 then (some ((⟨(0 : Int), ([] : List Nat), (0 : Int)⟩ : S46), (4 : Int))) else (jn (fun (z8 : Bool) => jn (fun (z11 : Unit) => (subL a0 (some a1) (some (fW .i64 (a1 + z6.2)))).bind fun x4_4 => some ((⟨z6.1, x4_4, a1⟩ : S46), (0 : Int))) (fun j11 => if z8 then (g59_l9 k j11 a0 a1 z6 k false a1) else (j11 ()))) (fun j8 => if (decide (z6.1 = 3)) then (if (decide (fW .i64 (a1 + z6.2) < (a0.length : Int))) then ((nthS a0 (fW .i64 (a1 + z6.2))).bind fun x3_11 => j8 (decide (x3_11 = 35))) else (j8 false)) else (j8 false)))) g59p7 (fun (z7 : Bool) => [(0, .str a0), (1, .int .i64 a1), (4, .ptr 0 3 0), (6, .int .i64 z6.1), (8, .int .i64 (fW .i64 (a1 + z6.2))), (35, .bool z7)]) (fun (z7 : Bool) => (mkH [⟨[.int .i64 0, .str [], .int .i64 0], 0, false⟩])) (fun z7 => ?_) (fun j7 hj7 => ?_)
  ·refine oS 35 (b := z7) (by kernel_rfl) (fun hb => ?_) (fun hb => ?_)
   ·let E4 : Env := [(5, .int .i64 4), (36, .agg [.int .i64 0, .str [], .int .i64 0]), (35, .bool true), (0, .str a0), (1, .int .i64 a1), (4, .ptr 0 3 0), (6, .int .i64 z6.1), (8, .int .i64 (fW .i64 (a1 + z6.2))), (35, .bool z7)]
    refine oR 8 (p' := .fin) (eE := E4) (H' := (mkH [⟨[.int .i64 0, .str [], .int .i64 0], 3, false⟩])) (by kernel_rfl) ?_
    exact oT (r := ((⟨(0 : Int), ([] : List Nat), (0 : Int)⟩ : S46), (4 : Int))) (xs := [.agg [.int .i64 0, .str [], .int .i64 0], .int .i64 4]) (v := .tuple [.agg [.int .i64 0, .str [], .int .i64 0], .int .i64 4]) (by kernel_rfl) (by kernel_rfl) (by kernel_rfl) (.pures (by kernel_rfl)) (by kernel_rfl)
   ·let E5 : Env := [(39, .bool (decide (z6.1 = 3))), (38, .bool (decide (z6.1 = 3))), (37, .int .i64 z6.1), (35, .bool false), (0, .str a0), (1, .int .i64 a1), (4, .ptr 0 3 0), (6, .int .i64 z6.1), (8, .int .i64 (fW .i64 (a1 + z6.2))), (35, .bool z7)]
    refine oR 8 (p' := (atN 3 (ctl1 g59p9))) (eE := E5) (H' := (mkH [⟨[.int .i64 0, .str [], .int .i64 0], 0, false⟩])) (by kernel_rfl) ?_
    refine oJ (f := fun (z8 : Bool) => jn (fun (z11 : Unit) => (subL a0 (some a1) (some (fW .i64 (a1 + z6.2)))).bind fun x4_4 => some ((⟨z6.1, x4_4, a1⟩ : S46), (0 : Int))) (fun j11 => if z8 then (g59_l9 k j11 a0 a1 z6 k false a1) else (j11 ()))) g59p11 (fun (z8 : Bool) => [(0, .str a0), (1, .int .i64 a1), (4, .ptr 0 3 0), (6, .int .i64 z6.1), (8, .int .i64 (fW .i64 (a1 + z6.2))), (50, .bool z8)]) (fun (z8 : Bool) => (mkH [⟨[.int .i64 0, .str [], .int .i64 0], 0, false⟩])) (fun z8 => ?_) (fun j8 hj8 => ?_)
    ·refine oJ (f := fun (z11 : Unit) => (subL a0 (some a1) (some (fW .i64 (a1 + z6.2)))).bind fun x4_4 => some ((⟨z6.1, x4_4, a1⟩ : S46), (0 : Int))) g59p13 (fun (z11 : Unit) => [(0, .str a0), (1, .int .i64 a1), (4, .ptr 0 3 0), (6, .int .i64 z6.1), (8, .int .i64 (fW .i64 (a1 + z6.2)))]) (fun (z11 : Unit) => (mkH [⟨[.int .i64 0, .str [], .int .i64 0], 0, false⟩])) (fun z11 => ?_) (fun j11 hj11 => ?_)
     ·let E6 : Env := [(70, .int .i64 (fW .i64 (a1 + z6.2))), (69, .int .i64 a1), (68, .str a0), (67, .int .i64 z6.1), (0, .str a0), (1, .int .i64 a1), (4, .ptr 0 3 0), (6, .int .i64 z6.1), (8, .int .i64 (fW .i64 (a1 + z6.2)))]
      refine oR 5 (p' := (atN 4 (ctl1 g59p13))) (eE := E6) (H' := (mkH [⟨[.int .i64 0, .str [], .int .i64 0], 0, false⟩])) (by kernel_rfl) ?_
      refine oH (fun (x4_4 : (List Nat)) => (.str x4_4, (mkH [⟨[.int .i64 0, .str [], .int .i64 0], 0, false⟩]))) (atN 5 (ctl1 g59p13)) (fun x4_4 => ((71, .str x4_4) :: E6)) (subH (some a1) (some (fW .i64 (a1 + z6.2))) (by kernel_rfl)) (fun _ => by kernel_rfl) (fun x4_4 hx4_4 => ?_)
      refine oR 6 (p' := .fin) (eE := ((5, .int .i64 0) :: (73, .agg [.int .i64 z6.1, .str x4_4, .int .i64 a1]) :: (72, .int .i64 a1) :: (71, .str x4_4) :: E6)) (H' := (mkH [⟨[.int .i64 z6.1, .str x4_4, .int .i64 a1], 3, false⟩])) (by kernel_rfl) ?_
      exact oT (r := ((⟨z6.1, x4_4, a1⟩ : S46), (0 : Int))) (xs := [.agg [.int .i64 z6.1, .str x4_4, .int .i64 a1], .int .i64 0]) (v := .tuple [.agg [.int .i64 z6.1, .str x4_4, .int .i64 a1], .int .i64 0]) (by kernel_rfl) (by kernel_rfl) (by kernel_rfl) (.pures (by kernel_rfl)) (by kernel_rfl)
     ·refine oS 50 (b := z8) (by kernel_rfl) (fun hb => ?_) (fun hb => ?_)
      ·let E7 : Env := [(10, .int .i64 a1), (51, .int .i64 a1), (9, .bool false), (50, .bool true), (0, .str a0), (1, .int .i64 a1), (4, .ptr 0 3 0), (6, .int .i64 z6.1), (8, .int .i64 (fW .i64 (a1 + z6.2))), (50, .bool z8)]
       refine oR 13 (p' := g59p15) (eE := E7) (H' := (mkH [⟨[.int .i64 0, .str [], .int .i64 0], 0, false⟩])) (by kernel_rfl) ?_
       refine oK [0, 1, 4, 6, 8, 9, 10] (eE := [(0, .str a0), (1, .int .i64 a1), (4, .ptr 0 3 0), (6, .int .i64 z6.1), (8, .int .i64 (fW .i64 (a1 + z6.2))), (9, .bool false), (10, .int .i64 a1)]) (by kernel_rfl) ?_
       exact (g59_l9_ok k j11 a0 a1 z6 hj11 k) false a1
      ·let E14 : Env := [(50, .bool false), (0, .str a0), (1, .int .i64 a1), (4, .ptr 0 3 0), (6, .int .i64 z6.1), (8, .int .i64 (fW .i64 (a1 + z6.2))), (50, .bool z8)]
       refine oR 3 (p' := g59p13) (eE := E14) (H' := (mkH [⟨[.int .i64 0, .str [], .int .i64 0], 0, false⟩])) (by kernel_rfl) ?_
       refine oK [0, 1, 4, 6, 8] (eE := [(0, .str a0), (1, .int .i64 a1), (4, .ptr 0 3 0), (6, .int .i64 z6.1), (8, .int .i64 (fW .i64 (a1 + z6.2)))]) (by kernel_rfl) ?_
       exact hj11 ()
    ·refine oS 39 (b := decide (z6.1 = 3)) (by kernel_rfl) (fun hb => ?_) (fun hb => ?_)
     ·let E15 : Env := ((45, .bool (decide (fW .i64 (a1 + z6.2) < (a0.length : Int)))) :: (44, .bool (decide (fW .i64 (a1 + z6.2) < (a0.length : Int)))) :: (43, .bool (decide (fW .i64 (a1 + z6.2) < (a0.length : Int)))) :: (42, .int .i64 (a0.length : Int)) :: (41, .str a0) :: (40, .int .i64 (fW .i64 (a1 + z6.2))) :: (39, .bool true) :: E5)
      refine oR 6 (p' := (atN 9 (ctl1 g59p9))) (eE := E15) (H' := (mkH [⟨[.int .i64 0, .str [], .int .i64 0], 0, false⟩])) (by kernel_rfl) ?_
      refine oS 45 (b := decide (fW .i64 (a1 + z6.2) < (a0.length : Int))) (by kernel_rfl) (fun hb => ?_) (fun hb => ?_)
      ·refine oR 2 (p' := (atN 11 (ctl1 g59p9))) (eE := ((47, .int .i64 (fW .i64 (a1 + z6.2))) :: (46, .str a0) :: (45, .bool true) :: E15)) (H' := (mkH [⟨[.int .i64 0, .str [], .int .i64 0], 0, false⟩])) (by kernel_rfl) ?_
       refine oH (fun (x3_11 : Int) => (.int .u8 x3_11, (mkH [⟨[.int .i64 0, .str [], .int .i64 0], 0, false⟩]))) (atN 12 (ctl1 g59p9)) (fun x3_11 => ((48, .int .u8 x3_11) :: (47, .int .i64 (fW .i64 (a1 + z6.2))) :: (46, .str a0) :: (45, .bool true) :: E15)) (idxH (by kernel_rfl)) (fun _ => by kernel_rfl) (fun x3_11 hx3_11 => ?_)
       let E16 : Env := ((50, .bool (decide (x3_11 = 35))) :: (49, .bool (decide (x3_11 = 35))) :: (48, .int .u8 x3_11) :: (47, .int .i64 (fW .i64 (a1 + z6.2))) :: (46, .str a0) :: (45, .bool true) :: E15)
       refine oR 3 (p' := g59p11) (eE := E16) (H' := (mkH [⟨[.int .i64 0, .str [], .int .i64 0], 0, false⟩])) (by kernel_rfl) ?_
       refine oK [0, 1, 4, 6, 8, 50] (eE := [(0, .str a0), (1, .int .i64 a1), (4, .ptr 0 3 0), (6, .int .i64 z6.1), (8, .int .i64 (fW .i64 (a1 + z6.2))), (50, .bool (decide (x3_11 = 35)))]) (by kernel_rfl) ?_
       exact hj8 (decide (x3_11 = 35))
      ·let E17 : Env := ((50, .bool false) :: (49, .tuple []) :: (48, .tuple []) :: (47, .tuple []) :: (46, .tuple []) :: (45, .bool false) :: E15)
       refine oR 6 (p' := g59p11) (eE := E17) (H' := (mkH [⟨[.int .i64 0, .str [], .int .i64 0], 0, false⟩])) (by kernel_rfl) ?_
       refine oK [0, 1, 4, 6, 8, 50] (eE := [(0, .str a0), (1, .int .i64 a1), (4, .ptr 0 3 0), (6, .int .i64 z6.1), (8, .int .i64 (fW .i64 (a1 + z6.2))), (50, .bool false)]) (by kernel_rfl) ?_
       exact hj8 false
     ·let E18 : Env := ((50, .bool false) :: (49, .tuple []) :: (48, .tuple []) :: (47, .tuple []) :: (46, .tuple []) :: (45, .bool false) :: (44, .bool false) :: (43, .tuple []) :: (42, .tuple []) :: (41, .tuple []) :: (40, .tuple []) :: (39, .bool false) :: E5)
      refine oR 12 (p' := g59p11) (eE := E18) (H' := (mkH [⟨[.int .i64 0, .str [], .int .i64 0], 0, false⟩])) (by kernel_rfl) ?_
      refine oK [0, 1, 4, 6, 8, 50] (eE := [(0, .str a0), (1, .int .i64 a1), (4, .ptr 0 3 0), (6, .int .i64 z6.1), (8, .int .i64 (fW .i64 (a1 + z6.2))), (50, .bool false)]) (by kernel_rfl) ?_
      exact hj8 false
  ·refine oS 24 (b := decide (z6.2 = 0)) (by kernel_rfl) (fun hb => ?_) (fun hb => ?_)
   ·let E19 : Env := ((35, .bool true) :: (34, .tuple []) :: (33, .tuple []) :: (32, .tuple []) :: (31, .tuple []) :: (30, .tuple []) :: (29, .tuple []) :: (28, .tuple []) :: (27, .tuple []) :: (26, .tuple []) :: (25, .tuple []) :: (24, .bool true) :: E3)
    refine oR 12 (p' := g59p7) (eE := E19) (H' := (mkH [⟨[.int .i64 0, .str [], .int .i64 0], 0, false⟩])) (by kernel_rfl) ?_
    refine oK [0, 1, 4, 6, 8, 35] (eE := [(0, .str a0), (1, .int .i64 a1), (4, .ptr 0 3 0), (6, .int .i64 z6.1), (8, .int .i64 (fW .i64 (a1 + z6.2))), (35, .bool true)]) (by kernel_rfl) ?_
    exact hj7 true
   ·let E20 : Env := ((29, .bool (decide (fW .i64 (a1 + z6.2) < (a0.length : Int)))) :: (28, .bool (decide (fW .i64 (a1 + z6.2) < (a0.length : Int)))) :: (27, .int .i64 (a0.length : Int)) :: (26, .str a0) :: (25, .int .i64 (fW .i64 (a1 + z6.2))) :: (24, .bool false) :: E3)
    refine oR 5 (p' := (atN 8 (ctl1 g59p6))) (eE := E20) (H' := (mkH [⟨[.int .i64 0, .str [], .int .i64 0], 0, false⟩])) (by kernel_rfl) ?_
    refine oS 29 (b := decide (fW .i64 (a1 + z6.2) < (a0.length : Int))) (by kernel_rfl) (fun hb => ?_) (fun hb => ?_)
    ·refine oR 2 (p' := (atN 10 (ctl1 g59p6))) (eE := ((31, .int .i64 (fW .i64 (a1 + z6.2))) :: (30, .str a0) :: (29, .bool true) :: E20)) (H' := (mkH [⟨[.int .i64 0, .str [], .int .i64 0], 0, false⟩])) (by kernel_rfl) ?_
     refine oH (fun (x2_10 : Int) => (.int .u8 x2_10, (mkH [⟨[.int .i64 0, .str [], .int .i64 0], 0, false⟩]))) (atN 11 (ctl1 g59p6)) (fun x2_10 => ((32, .int .u8 x2_10) :: (31, .int .i64 (fW .i64 (a1 + z6.2))) :: (30, .str a0) :: (29, .bool true) :: E20)) (idxH (by kernel_rfl)) (fun _ => by kernel_rfl) (fun x2_10 hx2_10 => ?_)
     refine oC (fun (x2_11 : Bool) => .bool x2_11) (atN 12 (ctl1 g59p6)) (fun x2_11 => ((33, .bool x2_11) :: (32, .int .u8 x2_10) :: (31, .int .i64 (fW .i64 (a1 + z6.2))) :: (30, .str a0) :: (29, .bool true) :: E20)) (fi := 74) (args := [.int .u8 x2_10]) (by kernel_rfl) (by kernel_rfl) (fun _ => by kernel_rfl) (fun r h => g74_ok k x2_10 r h) (fun _ => by kernel_rfl) (fun x2_11 hx2_11 => ?_)
     let E21 : Env := ((35, .bool x2_11) :: (34, .bool x2_11) :: (33, .bool x2_11) :: (32, .int .u8 x2_10) :: (31, .int .i64 (fW .i64 (a1 + z6.2))) :: (30, .str a0) :: (29, .bool true) :: E20)
     refine oR 3 (p' := g59p7) (eE := E21) (H' := (mkH [⟨[.int .i64 0, .str [], .int .i64 0], 0, false⟩])) (by kernel_rfl) ?_
     refine oK [0, 1, 4, 6, 8, 35] (eE := [(0, .str a0), (1, .int .i64 a1), (4, .ptr 0 3 0), (6, .int .i64 z6.1), (8, .int .i64 (fW .i64 (a1 + z6.2))), (35, .bool x2_11)]) (by kernel_rfl) ?_
     exact hj7 x2_11
    ·let E22 : Env := ((35, .bool false) :: (34, .bool false) :: (33, .tuple []) :: (32, .tuple []) :: (31, .tuple []) :: (30, .tuple []) :: (29, .bool false) :: E20)
     refine oR 7 (p' := g59p7) (eE := E22) (H' := (mkH [⟨[.int .i64 0, .str [], .int .i64 0], 0, false⟩])) (by kernel_rfl) ?_
     refine oK [0, 1, 4, 6, 8, 35] (eE := [(0, .str a0), (1, .int .i64 a1), (4, .ptr 0 3 0), (6, .int .i64 z6.1), (8, .int .i64 (fW .i64 (a1 + z6.2))), (35, .bool false)]) (by kernel_rfl) ?_
     exact hj7 false
 ·refine oS 15 (b := decide (x0_2 = 0)) (by kernel_rfl) (fun hb => ?_) (fun hb => ?_)
  ·refine oR 4 (p' := (atN 2 (ctl1 g59p4))) (eE := ((17, .int .i64 a1) :: (16, .str a0) :: (15, .bool true) :: E2)) (H' := (mkH [⟨[.int .i64 0, .str [], .int .i64 0], 0, false⟩])) (by kernel_rfl) ?_
   refine oC (fun (x1_2 : Int) => .int .i64 x1_2) (atN 3 (ctl1 g59p4)) (fun x1_2 => ((18, .int .i64 x1_2) :: (17, .int .i64 a1) :: (16, .str a0) :: (15, .bool true) :: E2)) (fi := 73) (args := [.str a0, .int .i64 a1]) (by kernel_rfl) (by kernel_rfl) (fun _ => by kernel_rfl) (fun r h => g73_ok k a0 a1 r h) (fun _ => by kernel_rfl) (fun x1_2 hx1_2 => ?_)
   let E23 : Env := ((7, .int .i64 x1_2) :: (6, .int .i64 3) :: (18, .int .i64 x1_2) :: (17, .int .i64 a1) :: (16, .str a0) :: (15, .bool true) :: E2)
   refine oR 4 (p' := g59p5) (eE := E23) (H' := (mkH [⟨[.int .i64 0, .str [], .int .i64 0], 0, false⟩])) (by kernel_rfl) ?_
   refine oK [0, 1, 4, 6, 7] (eE := [(0, .str a0), (1, .int .i64 a1), (4, .ptr 0 3 0), (6, .int .i64 3), (7, .int .i64 x1_2)]) (by kernel_rfl) ?_
   exact hj6 (3, x1_2)
  ·refine oR 3 (p' := g59p5) (eE := ((15, .bool false) :: E2)) (H' := (mkH [⟨[.int .i64 0, .str [], .int .i64 0], 0, false⟩])) (by kernel_rfl) ?_
   refine oK [0, 1, 4, 6, 7] (eE := [(0, .str a0), (1, .int .i64 a1), (4, .ptr 0 3 0), (6, .int .i64 4), (7, .int .i64 x0_2)]) (by kernel_rfl) ?_
   exact hj6 (4, x0_2)
end
end Go.Proofs.Ytbmijiibfaacmaa.Am
set_option maxRecDepth 100000
set_option linter.unusedVariables false
namespace Go.Proofs.Ytbmijiibfaacmaa.Am
noncomputable section
open Go
def X60 : Fx Int := ⟨Try.prog, cx, Try.f60, fun r => .int .i64 r, 0, fun _ => H0, cxTi, cxOrd⟩
def g60p0 : Pt := nav [0] (bodyAt Try.f60)
def g60p1 : Pt := nav [0, 0, 0, 0, 0] g60p0
def g60p2 : Pt := nav [0, 0, 0] g60p1
def g60p3 : Pt := nav [0, 0] g60p2
def g60_l1 (k : Nat)  (a0 : (List Nat)) (n : Nat) : Int → Option Int :=
 Nat.rec (motive := fun _ => Int → Option Int) (fun _ => none) (fun _ ih => fun (y1_0 : Int) => jn (fun (z2 : Bool × Int) => if z2.1 then (ih (fW .i64 (z2.2 + 1))) else (some z2.2)) (fun j2 => if (decide (y1_0 < (a0.length : Int))) then ((nthS a0 y1_0).bind fun x0_7 => (g74 k x0_7).bind fun x0_8 => j2 (x0_8, y1_0)) else (j2 (false, y1_0)))) n
theorem g60_l1_s (k : Nat)  (a0 : (List Nat)) (n : Nat) (y1_0 : Int) : g60_l1 k a0 (n + 1) y1_0 = (jn (fun (z2 : Bool × Int) => if z2.1 then ((g60_l1 k a0 n) (fW .i64 (z2.2 + 1))) else (some z2.2)) (fun j2 => if (decide (y1_0 < (a0.length : Int))) then ((nthS a0 y1_0).bind fun x0_7 => (g74 k x0_7).bind fun x0_8 => j2 (x0_8, y1_0)) else (j2 (false, y1_0)))) := rfl
theorem g60_l1_ok (k : Nat)  (a0 : (List Nat))  : ∀ (n : Nat) (y1_0 : Int), Ok X60 g60p1 [(0, .str a0), (1, .int .i64 y1_0)] (mkH []) (g60_l1 k a0 n y1_0)
 | 0, _ => ok_none
 | n + 1, y1_0 => by
  have ih := g60_l1_ok k a0 n
  rw [g60_l1_s]
  refine ok_ent (p' := nav [0] g60p1) (by kernel_rfl) ?_
  let E1 : Env := [(9, .bool (decide (y1_0 < (a0.length : Int)))), (8, .bool (decide (y1_0 < (a0.length : Int)))), (7, .int .i64 (a0.length : Int)), (6, .str a0), (5, .int .i64 y1_0), (0, .str a0), (1, .int .i64 y1_0)]
  refine oR 8 (p' := (atN 5 (ctl1 g60p2))) (eE := E1) (H' := (mkH [])) (by kernel_rfl) ?_
  refine oJ (f := fun (z2 : Bool × Int) => if z2.1 then ((g60_l1 k a0 n) (fW .i64 (z2.2 + 1))) else (some z2.2)) g60p3 (fun (z2 : Bool × Int) => [(0, .str a0), (1, .int .i64 z2.2), (14, .bool z2.1)]) (fun (z2 : Bool × Int) => (mkH [])) (fun z2 => ?_) (fun j2 hj2 => ?_)
  ·refine oS 14 (b := z2.1) (by kernel_rfl) (fun hb => ?_) (fun hb => ?_)
   ·let E2 : Env := [(1, .int .i64 (fW .i64 (z2.2 + 1))), (16, .int .i64 (fW .i64 (z2.2 + 1))), (15, .int .i64 z2.2), (14, .bool true), (0, .str a0), (1, .int .i64 z2.2), (14, .bool z2.1)]
    refine oR 8 (p' := g60p1) (eE := E2) (H' := (mkH [])) (by kernel_rfl) ?_
    refine oK [0, 1] (eE := [(0, .str a0), (1, .int .i64 (fW .i64 (z2.2 + 1)))]) (by kernel_rfl) ?_
    exact ih (fW .i64 (z2.2 + 1))
   ·let E3 : Env := [(4, .int .i64 z2.2), (17, .int .i64 z2.2), (14, .bool false), (0, .str a0), (1, .int .i64 z2.2), (14, .bool z2.1)]
    refine oR 8 (p' := .fin) (eE := E3) (H' := (mkH [])) (by kernel_rfl) ?_
    exact oT (r := z2.2) (xs := [.int .i64 z2.2]) (v := .int .i64 z2.2) (by kernel_rfl) (by kernel_rfl) (by kernel_rfl) (.pures (by kernel_rfl)) (by kernel_rfl)
  ·refine oS 9 (b := decide (y1_0 < (a0.length : Int))) (by kernel_rfl) (fun hb => ?_) (fun hb => ?_)
   ·refine oR 2 (p' := (atN 7 (ctl1 g60p2))) (eE := ((11, .int .i64 y1_0) :: (10, .str a0) :: (9, .bool true) :: E1)) (H' := (mkH [])) (by kernel_rfl) ?_
    refine oH (fun (x0_7 : Int) => (.int .u8 x0_7, (mkH []))) (atN 8 (ctl1 g60p2)) (fun x0_7 => ((12, .int .u8 x0_7) :: (11, .int .i64 y1_0) :: (10, .str a0) :: (9, .bool true) :: E1)) (idxH (by kernel_rfl)) (fun _ => by kernel_rfl) (fun x0_7 hx0_7 => ?_)
    refine oC (fun (x0_8 : Bool) => .bool x0_8) (atN 9 (ctl1 g60p2)) (fun x0_8 => ((13, .bool x0_8) :: (12, .int .u8 x0_7) :: (11, .int .i64 y1_0) :: (10, .str a0) :: (9, .bool true) :: E1)) (fi := 74) (args := [.int .u8 x0_7]) (by kernel_rfl) (by kernel_rfl) (fun _ => by kernel_rfl) (fun r h => g74_ok k x0_7 r h) (fun _ => by kernel_rfl) (fun x0_8 hx0_8 => ?_)
    let E4 : Env := ((14, .bool x0_8) :: (13, .bool x0_8) :: (12, .int .u8 x0_7) :: (11, .int .i64 y1_0) :: (10, .str a0) :: (9, .bool true) :: E1)
    refine oR 2 (p' := g60p3) (eE := E4) (H' := (mkH [])) (by kernel_rfl) ?_
    refine oK [0, 1, 14] (eE := [(0, .str a0), (1, .int .i64 y1_0), (14, .bool x0_8)]) (by kernel_rfl) ?_
    exact hj2 (x0_8, y1_0)
   ·let E5 : Env := ((14, .bool false) :: (13, .tuple []) :: (12, .tuple []) :: (11, .tuple []) :: (10, .tuple []) :: (9, .bool false) :: E1)
    refine oR 6 (p' := g60p3) (eE := E5) (H' := (mkH [])) (by kernel_rfl) ?_
    refine oK [0, 1, 14] (eE := [(0, .str a0), (1, .int .i64 y1_0), (14, .bool false)]) (by kernel_rfl) ?_
    exact hj2 (false, y1_0)
def g60 (k : Nat) (a0 : (List Nat)) (a1 : Int) : Option Int :=
 g60_l1 k a0 k a1
theorem g60_ok (k : Nat) (a0 : (List Nat)) (a1 : Int) (r : Int) (h : g60 k a0 a1 = some r) : PureOk Try.prog 60 [.str a0, .int .i64 a1] (.int .i64 r) := by
 refine pure_of X60 (fun _ => rfl) Try.func60 (by decide +kernel) (by kernel_rfl) (t := g60 k a0 a1) ?_ h
 unfold g60
 refine oE (eE := [(0, .str a0), (1, .int .i64 a1)]) (by kernel_rfl) ?_
 refine oR 7 (p' := g60p1) (eE := [(4, .int .i64 0), (0, .str a0), (1, .int .i64 a1)]) (H' := (mkH [])) (by kernel_rfl) ?_
 refine oK [0, 1] (eE := [(0, .str a0), (1, .int .i64 a1)]) (by kernel_rfl) ?_
 exact (g60_l1_ok k a0 k) a1
end
end Go.Proofs.Ytbmijiibfaacmaa.Am
set_option maxRecDepth 100000
set_option linter.unusedVariables false
namespace Go.Proofs.Ytbmijiibfaacmaa.Am
noncomputable section
open Go
def X62 : Fx Int := ⟨Try.prog, cx, Try.f62, fun r => .int .i64 r, 0, fun _ => H0, cxTi, cxOrd⟩
def g62p0 : Pt := nav [0] (bodyAt Try.f62)
def g62p1 : Pt := nav [0, 0, 0] g62p0
def g62p2 : Pt := nav [0, 0, 0, 0, 0] g62p1
def g62p3 : Pt := nav [0, 0, 0] g62p2
def g62p4 : Pt := nav [0] g62p3
def g62p5 : Pt := nav [1, 0, 0, 0, 0] g62p4
def g62p6 : Pt := nav [2, 0, 0, 0] g62p4
def g62p7 : Pt := nav [0, 0] g62p5
def g62p8 : Pt := nav [0, 0] g62p6
def g62p10 : Pt := nav [2, 0, 0] g62p7
def g62p13 : Pt := nav [0, 0, 0, 0] g62p10
def g62p15 : Pt := nav [0, 0] g62p13
def g62_l3 (k : Nat)  (a0 : (List Nat)) (a1 : Int) (n : Nat) : Int → Option Int :=
 Nat.rec (motive := fun _ => Int → Option Int) (fun _ => none) (fun _ ih => fun (y3_0 : Int) => jn (fun (z4 : Bool × Int) => if z4.1 then ((nthS a0 z4.2).bind fun x1_2 => jn (fun (z5 : Int) => (g56 k a0 z5).bind fun x2_2 => jn (fun (z6 : Bool) => if z6 then (some (0 : Int)) else (ih (fW .i64 (z5 + x2_2.2)))) (fun j6 => if (decide (x2_2.1 < 32)) then (j6 true) else (j6 (decide (x2_2.1 = 127))))) (fun j5 => if (decide (x1_2 = 92)) then (j5 (fW .i64 (z4.2 + 1))) else (j5 z4.2))) else (if (decide ((a0.length : Int) ≤ z4.2)) then (some (0 : Int)) else (some (fW .i64 (fW .i64 (z4.2 + 1) - a1))))) (fun j4 => if (decide (y3_0 < (a0.length : Int))) then ((nthS a0 y3_0).bind fun x0_7 => (nthS a0 a1).bind fun x0_10 => j4 (!decide (x0_7 = x0_10), y3_0)) else (j4 (false, y3_0)))) n
theorem g62_l3_s (k : Nat)  (a0 : (List Nat)) (a1 : Int) (n : Nat) (y3_0 : Int) : g62_l3 k a0 a1 (n + 1) y3_0 = (jn (fun (z4 : Bool × Int) => if z4.1 then ((nthS a0 z4.2).bind fun x1_2 => jn (fun (z5 : Int) => (g56 k a0 z5).bind fun x2_2 => jn (fun (z6 : Bool) => if z6 then (some (0 : Int)) else ((g62_l3 k a0 a1 n) (fW .i64 (z5 + x2_2.2)))) (fun j6 => if (decide (x2_2.1 < 32)) then (j6 true) else (j6 (decide (x2_2.1 = 127))))) (fun j5 => if (decide (x1_2 = 92)) then (j5 (fW .i64 (z4.2 + 1))) else (j5 z4.2))) else (if (decide ((a0.length : Int) ≤ z4.2)) then (some (0 : Int)) else (some (fW .i64 (fW .i64 (z4.2 + 1) - a1))))) (fun j4 => if (decide (y3_0 < (a0.length : Int))) then ((nthS a0 y3_0).bind fun x0_7 => (nthS a0 a1).bind fun x0_10 => j4 (!decide (x0_7 = x0_10), y3_0)) else (j4 (false, y3_0)))) := rfl
theorem g62_l3_ok (k : Nat)  (a0 : (List Nat)) (a1 : Int)  : ∀ (n : Nat) (y3_0 : Int), Ok X62 g62p2 [(0, .str a0), (1, .int .i64 a1), (5, .int .i64 y3_0)] (mkH []) (g62_l3 k a0 a1 n y3_0)
 | 0, _ => ok_none
 | n + 1, y3_0 => by
  have ih := g62_l3_ok k a0 a1 n
  rw [g62_l3_s]
  refine ok_ent (p' := nav [0] g62p2) (by kernel_rfl) ?_
  refine oR 2 (p' := g62p3) (eE := [(0, .str a0), (1, .int .i64 a1), (5, .int .i64 y3_0)]) (H' := (mkH [])) (by kernel_rfl) ?_
  refine oJ (f := fun (z4 : Bool × Int) => if z4.1 then ((nthS a0 z4.2).bind fun x1_2 => jn (fun (z5 : Int) => (g56 k a0 z5).bind fun x2_2 => jn (fun (z6 : Bool) => if z6 then (some (0 : Int)) else ((g62_l3 k a0 a1 n) (fW .i64 (z5 + x2_2.2)))) (fun j6 => if (decide (x2_2.1 < 32)) then (j6 true) else (j6 (decide (x2_2.1 = 127))))) (fun j5 => if (decide (x1_2 = 92)) then (j5 (fW .i64 (z4.2 + 1))) else (j5 z4.2))) else (if (decide ((a0.length : Int) ≤ z4.2)) then (some (0 : Int)) else (some (fW .i64 (fW .i64 (z4.2 + 1) - a1))))) g62p4 (fun (z4 : Bool × Int) => [(0, .str a0), (1, .int .i64 a1), (5, .int .i64 z4.2), (22, .bool z4.1)]) (fun (z4 : Bool × Int) => (mkH [])) (fun z4 => ?_) (fun j4 hj4 => ?_)
  ·refine oS 22 (b := z4.1) (by kernel_rfl) (fun hb => ?_) (fun hb => ?_)
   ·let E2 : Env := [(24, .int .i64 z4.2), (23, .str a0), (22, .bool true), (0, .str a0), (1, .int .i64 a1), (5, .int .i64 z4.2), (22, .bool z4.1)]
    refine oR 8 (p' := (atN 2 (ctl1 g62p5))) (eE := E2) (H' := (mkH [])) (by kernel_rfl) ?_
    refine oH (fun (x1_2 : Int) => (.int .u8 x1_2, (mkH []))) (atN 3 (ctl1 g62p5)) (fun x1_2 => ((25, .int .u8 x1_2) :: E2)) (idxH (by kernel_rfl)) (fun _ => by kernel_rfl) (fun x1_2 hx1_2 => ?_)
    refine oR 2 (p' := g62p7) (eE := ((26, .bool (decide (x1_2 = 92))) :: (25, .int .u8 x1_2) :: E2)) (H' := (mkH [])) (by kernel_rfl) ?_
    refine oJ (f := fun (z5 : Int) => (g56 k a0 z5).bind fun x2_2 => jn (fun (z6 : Bool) => if z6 then (some (0 : Int)) else ((g62_l3 k a0 a1 n) (fW .i64 (z5 + x2_2.2)))) (fun j6 => if (decide (x2_2.1 < 32)) then (j6 true) else (j6 (decide (x2_2.1 = 127))))) g62p10 (fun (z5 : Int) => [(0, .str a0), (1, .int .i64 a1), (5, .int .i64 z5)]) (fun (z5 : Int) => (mkH [])) (fun z5 => ?_) (fun j5 hj5 => ?_)
    ·let E3 : Env := [(31, .int .i64 z5), (30, .str a0), (0, .str a0), (1, .int .i64 a1), (5, .int .i64 z5)]
     refine oR 3 (p' := (atN 2 (ctl1 g62p10))) (eE := E3) (H' := (mkH [])) (by kernel_rfl) ?_
     refine oC (fun (x2_2 : (Int × Int)) => .tuple [.int .i64 x2_2.1, .int .i64 x2_2.2]) (atN 3 (ctl1 g62p10)) (fun x2_2 => ((32, .tuple [.int .i64 x2_2.1, .int .i64 x2_2.2]) :: E3)) (fi := 56) (args := [.str a0, .int .i64 z5]) (by kernel_rfl) (by kernel_rfl) (fun _ => by kernel_rfl) (fun r h => g56_ok k a0 z5 r h) (fun _ => by kernel_rfl) (fun x2_2 hx2_2 => ?_)
     let E4 : Env := ((37, .bool (decide (x2_2.1 < 32))) :: (36, .bool (decide (x2_2.1 < 32))) :: (35, .int .i64 x2_2.1) :: (7, .int .i64 x2_2.2) :: (6, .int .i64 x2_2.1) :: (34, .int .i64 x2_2.2) :: (33, .int .i64 x2_2.1) :: (29, .tuple [.int .i64 x2_2.1, .int .i64 x2_2.2]) :: (32, .tuple [.int .i64 x2_2.1, .int .i64 x2_2.2]) :: E3)
     refine oR 12 (p' := (atN 3 (ctl1 g62p13))) (eE := E4) (H' := (mkH [])) (by kernel_rfl) ?_
     refine oJ (f := fun (z6 : Bool) => if z6 then (some (0 : Int)) else ((g62_l3 k a0 a1 n) (fW .i64 (z5 + x2_2.2)))) g62p15 (fun (z6 : Bool) => [(0, .str a0), (1, .int .i64 a1), (5, .int .i64 z5), (7, .int .i64 x2_2.2), (40, .bool z6)]) (fun (z6 : Bool) => (mkH [])) (fun z6 => ?_) (fun j6 hj6 => ?_)
     ·refine oS 40 (b := z6) (by kernel_rfl) (fun hb => ?_) (fun hb => ?_)
      ·let E5 : Env := [(4, .int .i64 0), (40, .bool true), (0, .str a0), (1, .int .i64 a1), (5, .int .i64 z5), (7, .int .i64 x2_2.2), (40, .bool z6)]
       refine oR 6 (p' := .fin) (eE := E5) (H' := (mkH [])) (by kernel_rfl) ?_
       exact oT (r := (0 : Int)) (xs := [.int .i64 0]) (v := .int .i64 0) (by kernel_rfl) (by kernel_rfl) (by kernel_rfl) (.pures (by kernel_rfl)) (by kernel_rfl)
      ·let E6 : Env := [(5, .int .i64 (fW .i64 (z5 + x2_2.2))), (43, .int .i64 (fW .i64 (z5 + x2_2.2))), (42, .int .i64 x2_2.2), (41, .int .i64 z5), (40, .bool false), (0, .str a0), (1, .int .i64 a1), (5, .int .i64 z5), (7, .int .i64 x2_2.2), (40, .bool z6)]
       refine oR 8 (p' := g62p2) (eE := E6) (H' := (mkH [])) (by kernel_rfl) ?_
       refine oK [0, 1, 5] (eE := [(0, .str a0), (1, .int .i64 a1), (5, .int .i64 (fW .i64 (z5 + x2_2.2)))]) (by kernel_rfl) ?_
       exact ih (fW .i64 (z5 + x2_2.2))
     ·refine oS 37 (b := decide (x2_2.1 < 32)) (by kernel_rfl) (fun hb => ?_) (fun hb => ?_)
      ·refine oR 4 (p' := g62p15) (eE := ((40, .bool true) :: (39, .tuple []) :: (38, .tuple []) :: (37, .bool true) :: E4)) (H' := (mkH [])) (by kernel_rfl) ?_
       refine oK [0, 1, 5, 7, 40] (eE := [(0, .str a0), (1, .int .i64 a1), (5, .int .i64 z5), (7, .int .i64 x2_2.2), (40, .bool true)]) (by kernel_rfl) ?_
       exact hj6 true
      ·refine oR 4 (p' := g62p15) (eE := ((40, .bool (decide (x2_2.1 = 127))) :: (39, .bool (decide (x2_2.1 = 127))) :: (38, .int .i64 x2_2.1) :: (37, .bool false) :: E4)) (H' := (mkH [])) (by kernel_rfl) ?_
       refine oK [0, 1, 5, 7, 40] (eE := [(0, .str a0), (1, .int .i64 a1), (5, .int .i64 z5), (7, .int .i64 x2_2.2), (40, .bool (decide (x2_2.1 = 127)))]) (by kernel_rfl) ?_
       exact hj6 (decide (x2_2.1 = 127))
    ·refine oS 26 (b := decide (x1_2 = 92)) (by kernel_rfl) (fun hb => ?_) (fun hb => ?_)
     ·let E7 : Env := ((5, .int .i64 (fW .i64 (z4.2 + 1))) :: (28, .int .i64 (fW .i64 (z4.2 + 1))) :: (27, .int .i64 z4.2) :: (26, .bool true) :: (26, .bool (decide (x1_2 = 92))) :: (25, .int .u8 x1_2) :: E2)
      refine oR 7 (p' := g62p10) (eE := E7) (H' := (mkH [])) (by kernel_rfl) ?_
      refine oK [0, 1, 5] (eE := [(0, .str a0), (1, .int .i64 a1), (5, .int .i64 (fW .i64 (z4.2 + 1)))]) (by kernel_rfl) ?_
      exact hj5 (fW .i64 (z4.2 + 1))
     ·refine oR 3 (p' := g62p10) (eE := ((26, .bool false) :: (26, .bool (decide (x1_2 = 92))) :: (25, .int .u8 x1_2) :: E2)) (H' := (mkH [])) (by kernel_rfl) ?_
      refine oK [0, 1, 5] (eE := [(0, .str a0), (1, .int .i64 a1), (5, .int .i64 z4.2)]) (by kernel_rfl) ?_
      exact hj5 z4.2
   ·let E8 : Env := [(47, .bool (decide ((a0.length : Int) ≤ z4.2))), (46, .int .i64 (a0.length : Int)), (45, .str a0), (44, .int .i64 z4.2), (22, .bool false), (0, .str a0), (1, .int .i64 a1), (5, .int .i64 z4.2), (22, .bool z4.1)]
    refine oR 10 (p' := g62p8) (eE := E8) (H' := (mkH [])) (by kernel_rfl) ?_
    refine oS 47 (b := decide ((a0.length : Int) ≤ z4.2)) (by kernel_rfl) (fun hb => ?_) (fun hb => ?_)
    ·refine oR 6 (p' := .fin) (eE := ((4, .int .i64 0) :: (47, .bool true) :: E8)) (H' := (mkH [])) (by kernel_rfl) ?_
     exact oT (r := (0 : Int)) (xs := [.int .i64 0]) (v := .int .i64 0) (by kernel_rfl) (by kernel_rfl) (by kernel_rfl) (.pures (by kernel_rfl)) (by kernel_rfl)
    ·let E9 : Env := ((4, .int .i64 (fW .i64 (fW .i64 (z4.2 + 1) - a1))) :: (51, .int .i64 (fW .i64 (fW .i64 (z4.2 + 1) - a1))) :: (50, .int .i64 a1) :: (49, .int .i64 (fW .i64 (z4.2 + 1))) :: (48, .int .i64 z4.2) :: (47, .bool false) :: E8)
     refine oR 11 (p' := .fin) (eE := E9) (H' := (mkH [])) (by kernel_rfl) ?_
     exact oT (r := (fW .i64 (fW .i64 (z4.2 + 1) - a1))) (xs := [.int .i64 (fW .i64 (fW .i64 (z4.2 + 1) - a1))]) (v := .int .i64 (fW .i64 (fW .i64 (z4.2 + 1) - a1))) (by kernel_rfl) (by kernel_rfl) (by kernel_rfl) (.pures (by kernel_rfl)) (by kernel_rfl)
  ·refine ok_if (fun hb4 => ?_) (fun hb4 => ?_)
   ·refine ok_bind (fun x0_7 hx0_7 => ?_)
    refine ok_bind (fun x0_10 hx0_10 => ?_)
    let E10 : Env := [(14, .bool (decide (y3_0 < (a0.length : Int)))), (13, .bool (decide (y3_0 < (a0.length : Int)))), (12, .int .i64 (a0.length : Int)), (11, .str a0), (10, .int .i64 y3_0), (0, .str a0), (1, .int .i64 a1), (5, .int .i64 y3_0)]
    let E11 : Env := [(16, .int .i64 y3_0), (15, .str a0), (14, .bool true), (13, .bool true), (12, .int .i64 (a0.length : Int)), (11, .str a0), (10, .int .i64 y3_0), (0, .str a0), (1, .int .i64 a1), (5, .int .i64 y3_0)]
    let E12 : Env := ((22, .bool (!decide (x0_7 = x0_10))) :: (21, .bool (!decide (x0_7 = x0_10))) :: (20, .int .u8 x0_10) :: (19, .int .i64 a1) :: (18, .str a0) :: (17, .int .u8 x0_7) :: E11)
    refine ok_draw (p' := nav [0] g62p3) (eE := E12) (H' := (mkH [])) (hs := []) [(0, 0, 0), (0, 0, 0), (2, 0, 0), (7, 0, 0), (15, 0, 0), (31, 0, 0), (31, 0, 0), (127, 0, 0), (31, 0, 0), (31, 0, 0), (799, 0, 0), (2047, 0, 0), (4095, 0, 0)] (by kernel_rfl) (by kernel_rfl) (by kernel_rfl) (opsD_run 5 (l' := (opsAt g62p3).toList.drop 5) (eE := E10) (H' := (mkH [])) (hs := []) (by kernel_rfl) (opsD_env (eE := [(14, .bool true), (13, .bool true), (12, .int .i64 (a0.length : Int)), (11, .str a0), (10, .int .i64 y3_0), (0, .str a0), (1, .int .i64 a1), (5, .int .i64 y3_0)]) (congrArg (fun z : Bool => ([(14, .bool z), (13, .bool z), (12, .int .i64 (a0.length : Int)), (11, .str a0), (10, .int .i64 y3_0), (0, .str a0), (1, .int .i64 a1), (5, .int .i64 y3_0)] : Env)) hb4) (opsD_run 2 (l' := (opsAt g62p3).toList.drop 7) (eE := E11) (H' := (mkH [])) (hs := []) (by kernel_rfl) (opsD_chk (l' := (opsAt g62p3).toList.drop 8) (eE := ((17, .int .u8 x0_7) :: E11)) (hs := []) (x := x0_7) (fun (x0_7 : Int) => (.int .u8 x0_7, (mkH []))) (idxH (by kernel_rfl)) hx0_7 (by kernel_rfl) (opsD_run 2 (l' := (opsAt g62p3).toList.drop 10) (eE := ((19, .int .i64 a1) :: (18, .str a0) :: (17, .int .u8 x0_7) :: E11)) (H' := (mkH [])) (hs := []) (by kernel_rfl) (opsD_chk (l' := (opsAt g62p3).toList.drop 11) (eE := ((20, .int .u8 x0_10) :: (19, .int .i64 a1) :: (18, .str a0) :: (17, .int .u8 x0_7) :: E11)) (hs := []) (x := x0_10) (fun (x0_10 : Int) => (.int .u8 x0_10, (mkH []))) (idxH (by kernel_rfl)) hx0_10 (by kernel_rfl) (opsD_run 2 (l' := (opsAt g62p3).toList.drop 13) (eE := E12) (H' := (mkH [])) (hs := []) (by kernel_rfl) (.nil)))))))) (by kernel_rfl) (by kernel_rfl) (by kernel_rfl) ?_
    refine oK [0, 1, 5, 22] (eE := [(0, .str a0), (1, .int .i64 a1), (5, .int .i64 y3_0), (22, .bool (!decide (x0_7 = x0_10)))]) (by kernel_rfl) ?_
    exact hj4 (!decide (x0_7 = x0_10), y3_0)
   ·let E10 : Env := [(14, .bool (decide (y3_0 < (a0.length : Int)))), (13, .bool (decide (y3_0 < (a0.length : Int)))), (12, .int .i64 (a0.length : Int)), (11, .str a0), (10, .int .i64 y3_0), (0, .str a0), (1, .int .i64 a1), (5, .int .i64 y3_0)]
    let E13 : Env := [(22, .bool false), (21, .tuple []), (20, .tuple []), (19, .tuple []), (18, .tuple []), (17, .tuple []), (16, .tuple []), (15, .tuple []), (14, .bool false), (13, .bool false), (12, .int .i64 (a0.length : Int)), (11, .str a0), (10, .int .i64 y3_0), (0, .str a0), (1, .int .i64 a1), (5, .int .i64 y3_0)]
    refine ok_draw (p' := nav [0] g62p3) (eE := E13) (H' := (mkH [])) (hs := []) [(0, 0, 0), (0, 0, 0), (2, 0, 0), (7, 0, 0), (15, 0, 0), (31, 0, 0), (31, 0, 0), (127, 0, 0), (31, 0, 0), (31, 0, 0), (799, 0, 0), (2047, 0, 0), (4095, 0, 0)] (by kernel_rfl) (by kernel_rfl) (by kernel_rfl) (opsD_run 5 (l' := (opsAt g62p3).toList.drop 5) (eE := E10) (H' := (mkH [])) (hs := []) (by kernel_rfl) (opsD_env (eE := [(14, .bool false), (13, .bool false), (12, .int .i64 (a0.length : Int)), (11, .str a0), (10, .int .i64 y3_0), (0, .str a0), (1, .int .i64 a1), (5, .int .i64 y3_0)]) (congrArg (fun z : Bool => ([(14, .bool z), (13, .bool z), (12, .int .i64 (a0.length : Int)), (11, .str a0), (10, .int .i64 y3_0), (0, .str a0), (1, .int .i64 a1), (5, .int .i64 y3_0)] : Env)) hb4) (opsD_run 8 (l' := (opsAt g62p3).toList.drop 13) (eE := E13) (H' := (mkH [])) (hs := []) (by kernel_rfl) (.nil)))) (by kernel_rfl) (by kernel_rfl) (by kernel_rfl) ?_
    refine oK [0, 1, 5, 22] (eE := [(0, .str a0), (1, .int .i64 a1), (5, .int .i64 y3_0), (22, .bool false)]) (by kernel_rfl) ?_
    exact hj4 (false, y3_0)
def g62 (k : Nat) (a0 : (List Nat)) (a1 : Int) : Option Int :=
 g62_l3 k a0 a1 k (fW .i64 (a1 + 1))
theorem g62_ok (k : Nat) (a0 : (List Nat)) (a1 : Int) (r : Int) (h : g62 k a0 a1 = some r) : PureOk Try.prog 62 [.str a0, .int .i64 a1] (.int .i64 r) := by
 refine pure_of X62 (fun _ => rfl) Try.func62 (by decide +kernel) (by kernel_rfl) (t := g62 k a0 a1) ?_ h
 unfold g62
 refine oE (eE := [(0, .str a0), (1, .int .i64 a1)]) (by kernel_rfl) ?_
 let E1 : Env := [(5, .int .i64 (fW .i64 (a1 + 1))), (9, .int .i64 (fW .i64 (a1 + 1))), (8, .int .i64 a1), (4, .int .i64 0), (0, .str a0), (1, .int .i64 a1)]
 refine oR 13 (p' := g62p2) (eE := E1) (H' := (mkH [])) (by kernel_rfl) ?_
 refine oK [0, 1, 5] (eE := [(0, .str a0), (1, .int .i64 a1), (5, .int .i64 (fW .i64 (a1 + 1)))]) (by kernel_rfl) ?_
 exact (g62_l3_ok k a0 a1 k) (fW .i64 (a1 + 1))
end
end Go.Proofs.Ytbmijiibfaacmaa.Am
set_option maxRecDepth 100000
set_option linter.unusedVariables false
namespace Go.Proofs.Ytbmijiibfaacmaa.Am
noncomputable section
open Go
def X63 : Fx Int := ⟨Try.prog, cx, Try.f63, fun r => .int .i64 r, 0, fun _ => H0, cxTi, cxOrd⟩
def g63p0 : Pt := nav [0] (bodyAt Try.f63)
def g63p1 : Pt := nav [0, 0, 0, 0] g63p0
def g63p2 : Pt := nav [0, 0] g63p1
def g63p3 : Pt := nav [1, 0, 0] g63p2
def g63p4 : Pt := nav [2, 0, 0] g63p2
def g63p5 : Pt := nav [0, 0, 0] g63p3
def g63p6 : Pt := nav [0, 0, 0, 0] g63p4
def g63p7 : Pt := nav [0, 0] g63p5
def g63p8 : Pt := nav [0, 0] g63p6
def g63 (k : Nat) (a0 : (List Nat)) (a1 : Int) : Option Int :=
 jn (fun (z3 : Bool) => if z3 then ((g75 k a0 (fW .i64 (a1 + 1))).bind fun x1_3 => if (decide (0 ≤ x1_3.1)) then (some (fW .i64 (x1_3.2 + 1))) else (some (0 : Int))) else ((g56 k a0 (fW .i64 (a1 + 1))).bind fun x2_3 => jn (fun (z4 : Bool) => if z4 then (some (0 : Int)) else (some (fW .i64 (x2_3.2 + 1)))) (fun j4 => if (decide (x2_3.1 ≤ 32)) then (j4 true) else (j4 (decide (x2_3.1 = 127)))))) (fun j3 => if (decide (fW .i64 (a1 + 1) < (a0.length : Int))) then ((nthS a0 (fW .i64 (a1 + 1))).bind fun x0_9 => j3 (decide (x0_9 = 92))) else (j3 false))
theorem g63_ok (k : Nat) (a0 : (List Nat)) (a1 : Int) (r : Int) (h : g63 k a0 a1 = some r) : PureOk Try.prog 63 [.str a0, .int .i64 a1] (.int .i64 r) := by
 refine pure_of X63 (fun _ => rfl) Try.func63 (by decide +kernel) (by kernel_rfl) (t := g63 k a0 a1) ?_ h
 unfold g63
 refine oE (eE := [(0, .str a0), (1, .int .i64 a1)]) (by kernel_rfl) ?_
 let E1 : Env := [(14, .bool (decide (fW .i64 (a1 + 1) < (a0.length : Int)))), (13, .bool (decide (fW .i64 (a1 + 1) < (a0.length : Int)))), (12, .int .i64 (a0.length : Int)), (11, .str a0), (10, .int .i64 (fW .i64 (a1 + 1))), (9, .int .i64 a1), (4, .int .i64 0), (0, .str a0), (1, .int .i64 a1)]
 refine oR 13 (p' := (atN 6 (ctl1 g63p1))) (eE := E1) (H' := (mkH [])) (by kernel_rfl) ?_
 refine oJ (f := fun (z3 : Bool) => if z3 then ((g75 k a0 (fW .i64 (a1 + 1))).bind fun x1_3 => if (decide (0 ≤ x1_3.1)) then (some (fW .i64 (x1_3.2 + 1))) else (some (0 : Int))) else ((g56 k a0 (fW .i64 (a1 + 1))).bind fun x2_3 => jn (fun (z4 : Bool) => if z4 then (some (0 : Int)) else (some (fW .i64 (x2_3.2 + 1)))) (fun j4 => if (decide (x2_3.1 ≤ 32)) then (j4 true) else (j4 (decide (x2_3.1 = 127)))))) g63p2 (fun (z3 : Bool) => [(0, .str a0), (1, .int .i64 a1), (20, .bool z3)]) (fun (z3 : Bool) => (mkH [])) (fun z3 => ?_) (fun j3 hj3 => ?_)
 ·refine oS 20 (b := z3) (by kernel_rfl) (fun hb => ?_) (fun hb => ?_)
  ·let E2 : Env := [(24, .int .i64 (fW .i64 (a1 + 1))), (23, .int .i64 a1), (22, .str a0), (20, .bool true), (0, .str a0), (1, .int .i64 a1), (20, .bool z3)]
   refine oR 7 (p' := (atN 3 (ctl1 g63p3))) (eE := E2) (H' := (mkH [])) (by kernel_rfl) ?_
   refine oC (fun (x1_3 : (Int × Int)) => .tuple [.int .i64 x1_3.1, .int .i64 x1_3.2]) (atN 4 (ctl1 g63p3)) (fun x1_3 => ((25, .tuple [.int .i64 x1_3.1, .int .i64 x1_3.2]) :: E2)) (fi := 75) (args := [.str a0, .int .i64 (fW .i64 (a1 + 1))]) (by kernel_rfl) (by kernel_rfl) (fun _ => by kernel_rfl) (fun r h => g75_ok k a0 (fW .i64 (a1 + 1)) r h) (fun _ => by kernel_rfl) (fun x1_3 hx1_3 => ?_)
   let E3 : Env := ((6, .int .i64 x1_3.2) :: (5, .int .i64 x1_3.1) :: (27, .int .i64 x1_3.2) :: (26, .int .i64 x1_3.1) :: (21, .tuple [.int .i64 x1_3.1, .int .i64 x1_3.2]) :: (25, .tuple [.int .i64 x1_3.1, .int .i64 x1_3.2]) :: E2)
   refine oR 7 (p' := g63p5) (eE := E3) (H' := (mkH [])) (by kernel_rfl) ?_
   refine oK [5, 6] (eE := [(5, .int .i64 x1_3.1), (6, .int .i64 x1_3.2)]) (by kernel_rfl) ?_
   refine oR 4 (p' := g63p7) (eE := [(29, .bool (decide (0 ≤ x1_3.1))), (28, .int .i64 x1_3.1), (5, .int .i64 x1_3.1), (6, .int .i64 x1_3.2)]) (H' := (mkH [])) (by kernel_rfl) ?_
   refine oS 29 (b := decide (0 ≤ x1_3.1)) (by kernel_rfl) (fun hb => ?_) (fun hb => ?_)
   ·let E4 : Env := [(4, .int .i64 (fW .i64 (x1_3.2 + 1))), (31, .int .i64 (fW .i64 (x1_3.2 + 1))), (30, .int .i64 x1_3.2), (29, .bool true), (29, .bool (decide (0 ≤ x1_3.1))), (28, .int .i64 x1_3.1), (5, .int .i64 x1_3.1), (6, .int .i64 x1_3.2)]
    refine oR 8 (p' := .fin) (eE := E4) (H' := (mkH [])) (by kernel_rfl) ?_
    exact oT (r := (fW .i64 (x1_3.2 + 1))) (xs := [.int .i64 (fW .i64 (x1_3.2 + 1))]) (v := .int .i64 (fW .i64 (x1_3.2 + 1))) (by kernel_rfl) (by kernel_rfl) (by kernel_rfl) (.pures (by kernel_rfl)) (by kernel_rfl)
   ·let E5 : Env := [(4, .int .i64 0), (29, .bool false), (29, .bool (decide (0 ≤ x1_3.1))), (28, .int .i64 x1_3.1), (5, .int .i64 x1_3.1), (6, .int .i64 x1_3.2)]
    refine oR 7 (p' := .fin) (eE := E5) (H' := (mkH [])) (by kernel_rfl) ?_
    exact oT (r := (0 : Int)) (xs := [.int .i64 0]) (v := .int .i64 0) (by kernel_rfl) (by kernel_rfl) (by kernel_rfl) (.pures (by kernel_rfl)) (by kernel_rfl)
  ·let E6 : Env := [(35, .int .i64 (fW .i64 (a1 + 1))), (34, .int .i64 a1), (33, .str a0), (20, .bool false), (0, .str a0), (1, .int .i64 a1), (20, .bool z3)]
   refine oR 7 (p' := (atN 3 (ctl1 g63p4))) (eE := E6) (H' := (mkH [])) (by kernel_rfl) ?_
   refine oC (fun (x2_3 : (Int × Int)) => .tuple [.int .i64 x2_3.1, .int .i64 x2_3.2]) (atN 4 (ctl1 g63p4)) (fun x2_3 => ((36, .tuple [.int .i64 x2_3.1, .int .i64 x2_3.2]) :: E6)) (fi := 56) (args := [.str a0, .int .i64 (fW .i64 (a1 + 1))]) (by kernel_rfl) (by kernel_rfl) (fun _ => by kernel_rfl) (fun r h => g56_ok k a0 (fW .i64 (a1 + 1)) r h) (fun _ => by kernel_rfl) (fun x2_3 hx2_3 => ?_)
   let E7 : Env := ((8, .int .i64 x2_3.2) :: (7, .int .i64 x2_3.1) :: (38, .int .i64 x2_3.2) :: (37, .int .i64 x2_3.1) :: (32, .tuple [.int .i64 x2_3.1, .int .i64 x2_3.2]) :: (36, .tuple [.int .i64 x2_3.1, .int .i64 x2_3.2]) :: E6)
   refine oR 8 (p' := g63p6) (eE := E7) (H' := (mkH [])) (by kernel_rfl) ?_
   refine oK [7, 8] (eE := [(7, .int .i64 x2_3.1), (8, .int .i64 x2_3.2)]) (by kernel_rfl) ?_
   let E8 : Env := [(41, .bool (decide (x2_3.1 ≤ 32))), (40, .bool (decide (x2_3.1 ≤ 32))), (39, .int .i64 x2_3.1), (7, .int .i64 x2_3.1), (8, .int .i64 x2_3.2)]
   refine oR 4 (p' := (atN 3 (ctl1 g63p6))) (eE := E8) (H' := (mkH [])) (by kernel_rfl) ?_
   refine oJ (f := fun (z4 : Bool) => if z4 then (some (0 : Int)) else (some (fW .i64 (x2_3.2 + 1)))) g63p8 (fun (z4 : Bool) => [(8, .int .i64 x2_3.2), (44, .bool z4)]) (fun (z4 : Bool) => (mkH [])) (fun z4 => ?_) (fun j4 hj4 => ?_)
   ·refine oS 44 (b := z4) (by kernel_rfl) (fun hb => ?_) (fun hb => ?_)
    ·refine oR 6 (p' := .fin) (eE := [(4, .int .i64 0), (44, .bool true), (8, .int .i64 x2_3.2), (44, .bool z4)]) (H' := (mkH [])) (by kernel_rfl) ?_
     exact oT (r := (0 : Int)) (xs := [.int .i64 0]) (v := .int .i64 0) (by kernel_rfl) (by kernel_rfl) (by kernel_rfl) (.pures (by kernel_rfl)) (by kernel_rfl)
    ·let E9 : Env := [(4, .int .i64 (fW .i64 (x2_3.2 + 1))), (46, .int .i64 (fW .i64 (x2_3.2 + 1))), (45, .int .i64 x2_3.2), (44, .bool false), (8, .int .i64 x2_3.2), (44, .bool z4)]
     refine oR 9 (p' := .fin) (eE := E9) (H' := (mkH [])) (by kernel_rfl) ?_
     exact oT (r := (fW .i64 (x2_3.2 + 1))) (xs := [.int .i64 (fW .i64 (x2_3.2 + 1))]) (v := .int .i64 (fW .i64 (x2_3.2 + 1))) (by kernel_rfl) (by kernel_rfl) (by kernel_rfl) (.pures (by kernel_rfl)) (by kernel_rfl)
   ·refine oS 41 (b := decide (x2_3.1 ≤ 32)) (by kernel_rfl) (fun hb => ?_) (fun hb => ?_)
    ·refine oR 4 (p' := g63p8) (eE := ((44, .bool true) :: (43, .tuple []) :: (42, .tuple []) :: (41, .bool true) :: E8)) (H' := (mkH [])) (by kernel_rfl) ?_
     refine oK [8, 44] (eE := [(8, .int .i64 x2_3.2), (44, .bool true)]) (by kernel_rfl) ?_
     exact hj4 true
    ·refine oR 4 (p' := g63p8) (eE := ((44, .bool (decide (x2_3.1 = 127))) :: (43, .bool (decide (x2_3.1 = 127))) :: (42, .int .i64 x2_3.1) :: (41, .bool false) :: E8)) (H' := (mkH [])) (by kernel_rfl) ?_
     refine oK [8, 44] (eE := [(8, .int .i64 x2_3.2), (44, .bool (decide (x2_3.1 = 127)))]) (by kernel_rfl) ?_
     exact hj4 (decide (x2_3.1 = 127))
 ·refine oS 14 (b := decide (fW .i64 (a1 + 1) < (a0.length : Int))) (by kernel_rfl) (fun hb => ?_) (fun hb => ?_)
  ·refine oR 3 (p' := (atN 9 (ctl1 g63p1))) (eE := ((17, .int .i64 (fW .i64 (a1 + 1))) :: (16, .int .i64 a1) :: (15, .str a0) :: (14, .bool true) :: E1)) (H' := (mkH [])) (by kernel_rfl) ?_
   refine oH (fun (x0_9 : Int) => (.int .u8 x0_9, (mkH []))) (atN 10 (ctl1 g63p1)) (fun x0_9 => ((18, .int .u8 x0_9) :: (17, .int .i64 (fW .i64 (a1 + 1))) :: (16, .int .i64 a1) :: (15, .str a0) :: (14, .bool true) :: E1)) (idxH (by kernel_rfl)) (fun _ => by kernel_rfl) (fun x0_9 hx0_9 => ?_)
   let E10 : Env := ((20, .bool (decide (x0_9 = 92))) :: (19, .bool (decide (x0_9 = 92))) :: (18, .int .u8 x0_9) :: (17, .int .i64 (fW .i64 (a1 + 1))) :: (16, .int .i64 a1) :: (15, .str a0) :: (14, .bool true) :: E1)
   refine oR 3 (p' := g63p2) (eE := E10) (H' := (mkH [])) (by kernel_rfl) ?_
   refine oK [0, 1, 20] (eE := [(0, .str a0), (1, .int .i64 a1), (20, .bool (decide (x0_9 = 92)))]) (by kernel_rfl) ?_
   exact hj3 (decide (x0_9 = 92))
  ·let E11 : Env := ((20, .bool false) :: (19, .tuple []) :: (18, .tuple []) :: (17, .tuple []) :: (16, .tuple []) :: (15, .tuple []) :: (14, .bool false) :: E1)
   refine oR 7 (p' := g63p2) (eE := E11) (H' := (mkH [])) (by kernel_rfl) ?_
   refine oK [0, 1, 20] (eE := [(0, .str a0), (1, .int .i64 a1), (20, .bool false)]) (by kernel_rfl) ?_
   exact hj3 false
end
end Go.Proofs.Ytbmijiibfaacmaa.Am
set_option maxRecDepth 100000
set_option linter.unusedVariables false
namespace Go.Proofs.Ytbmijiibfaacmaa.Am
noncomputable section
open Go
def X46 : Fx (S46 × Int) := ⟨Try.prog, cx, Try.f46, fun r => .tuple [.agg [.int .i64 r.1.f0, .str r.1.f1, .int .i64 r.1.f2], .int .i64 r.2], 0, fun _ => H0, cxTi, cxOrd⟩
def g46p0 : Pt := nav [0] (bodyAt Try.f46)
def g46p1 : Pt := nav [0, 0, 0, 0] g46p0
def g46p2 : Pt := nav [0, 0] g46p1
def g46p4 : Pt := nav [2, 0, 0] g46p2
def g46p6 : Pt := nav [0, 0, 0] g46p4
def g46p7 : Pt := nav [0, 0, 0, 0, 0] g46p6
def g46p8 : Pt := nav [0, 0] g46p7
def g46p9 : Pt := nav [1, 0] g46p8
def g46p10 : Pt := nav [2, 0] g46p8
def g46p11 : Pt := nav [0, 0, 0, 0, 0] g46p9
def g46p12 : Pt := nav [0, 0] g46p10
def g46p13 : Pt := nav [0, 0, 0] g46p11
def g46p14 : Pt := nav [1] g46p12
def g46p15 : Pt := nav [2, 0] g46p12
def g46p16 : Pt := nav [0, 0] g46p13
def g46p17 : Pt := nav [0, 0, 0, 0] g46p14
def g46p18 : Pt := nav [0, 0] g46p15
def g46p20 : Pt := nav [2, 0, 0] g46p16
def g46p21 : Pt := nav [0, 0] g46p17
def g46p22 : Pt := nav [1, 0] g46p18
def g46p23 : Pt := nav [2, 0] g46p18
def g46p25 : Pt := nav [2, 0, 0] g46p21
def g46p26 : Pt := nav [0, 0] g46p23
def g46p27 : Pt := nav [1, 0] g46p26
def g46p28 : Pt := nav [2, 0] g46p26
def g46p29 : Pt := nav [0, 0, 0] g46p27
def g46p30 : Pt := nav [0, 0] g46p28
def g46p31 : Pt := nav [0, 0] g46p29
def g46p32 : Pt := nav [1] g46p30
def g46p33 : Pt := nav [2, 0] g46p30
def g46p35 : Pt := nav [0, 0] g46p33
def g46p36 : Pt := nav [1] g46p35
def g46p37 : Pt := nav [2, 0] g46p35
def g46p38 : Pt := nav [0, 0] g46p37
def g46p39 : Pt := nav [1] g46p38
def g46p40 : Pt := nav [2, 0] g46p38
def g46p41 : Pt := nav [0, 0] g46p40
def g46p42 : Pt := nav [1, 0] g46p41
def g46p43 : Pt := nav [2] g46p41
def g46p44 : Pt := nav [0, 0, 0, 0] g46p42
def g46p45 : Pt := nav [0, 0] g46p44
def g46p47 : Pt := nav [2, 0, 0] g46p45
def g46p48 : Pt := nav [0, 0] g46p47
def g46p49 : Pt := nav [1] g46p48
def g46_l18 (k : Nat)  (a0 : (List Nat)) (a1 : Int) (n : Nat) : Int → Option (S46 × Int) :=
 Nat.rec (motive := fun _ => Int → Option (S46 × Int)) (fun _ => none) (fun _ ih => fun (y18_0 : Int) => jn (fun (z24 : Bool × Int) => if z24.1 then (ih (fW .i64 (z24.2 + 1))) else ((subL a0 (some a1) (some z24.2)).bind fun x16_3 => (g57 k x16_3).bind fun x16_4 => some ((⟨(11 : Int), x16_4, a1⟩ : S46), (0 : Int)))) (fun j24 => if (decide (y18_0 < (a0.length : Int))) then ((nthS a0 y18_0).bind fun x15_7 => j24 (!decide (x15_7 = 10), y18_0)) else (j24 (false, y18_0)))) n
theorem g46_l18_s (k : Nat)  (a0 : (List Nat)) (a1 : Int) (n : Nat) (y18_0 : Int) : g46_l18 k a0 a1 (n + 1) y18_0 = (jn (fun (z24 : Bool × Int) => if z24.1 then ((g46_l18 k a0 a1 n) (fW .i64 (z24.2 + 1))) else ((subL a0 (some a1) (some z24.2)).bind fun x16_3 => (g57 k x16_3).bind fun x16_4 => some ((⟨(11 : Int), x16_4, a1⟩ : S46), (0 : Int)))) (fun j24 => if (decide (y18_0 < (a0.length : Int))) then ((nthS a0 y18_0).bind fun x15_7 => j24 (!decide (x15_7 = 10), y18_0)) else (j24 (false, y18_0)))) := rfl
theorem g46_l18_ok (k : Nat)  (a0 : (List Nat)) (a1 : Int)  : ∀ (n : Nat) (y18_0 : Int), Ok X46 g46p11 [(0, .str a0), (1, .int .i64 a1), (4, .ptr 0 3 0), (9, .int .i64 y18_0)] (mkH [⟨[.int .i64 0, .str [], .int .i64 0], 0, false⟩]) (g46_l18 k a0 a1 n y18_0)
 | 0, _ => ok_none
 | n + 1, y18_0 => by
  have ih := g46_l18_ok k a0 a1 n
  rw [g46_l18_s]
  refine ok_ent (p' := nav [0] g46p11) (by kernel_rfl) ?_
  let E6 : Env := [(34, .bool (decide (y18_0 < (a0.length : Int)))), (33, .bool (decide (y18_0 < (a0.length : Int)))), (32, .int .i64 (a0.length : Int)), (31, .str a0), (30, .int .i64 y18_0), (0, .str a0), (1, .int .i64 a1), (4, .ptr 0 3 0), (9, .int .i64 y18_0)]
  refine oR 8 (p' := (atN 5 (ctl1 g46p13))) (eE := E6) (H' := (mkH [⟨[.int .i64 0, .str [], .int .i64 0], 0, false⟩])) (by kernel_rfl) ?_
  refine oJ (f := fun (z24 : Bool × Int) => if z24.1 then ((g46_l18 k a0 a1 n) (fW .i64 (z24.2 + 1))) else ((subL a0 (some a1) (some z24.2)).bind fun x16_3 => (g57 k x16_3).bind fun x16_4 => some ((⟨(11 : Int), x16_4, a1⟩ : S46), (0 : Int)))) g46p16 (fun (z24 : Bool × Int) => [(0, .str a0), (1, .int .i64 a1), (4, .ptr 0 3 0), (9, .int .i64 z24.2), (39, .bool z24.1)]) (fun (z24 : Bool × Int) => (mkH [⟨[.int .i64 0, .str [], .int .i64 0], 0, false⟩])) (fun z24 => ?_) (fun j24 hj24 => ?_)
  ·refine oS 39 (b := z24.1) (by kernel_rfl) (fun hb => ?_) (fun hb => ?_)
   ·let E7 : Env := [(9, .int .i64 (fW .i64 (z24.2 + 1))), (41, .int .i64 (fW .i64 (z24.2 + 1))), (40, .int .i64 z24.2), (39, .bool true), (0, .str a0), (1, .int .i64 a1), (4, .ptr 0 3 0), (9, .int .i64 z24.2), (39, .bool z24.1)]
    refine oR 8 (p' := g46p11) (eE := E7) (H' := (mkH [⟨[.int .i64 0, .str [], .int .i64 0], 0, false⟩])) (by kernel_rfl) ?_
    refine oK [0, 1, 4, 9] (eE := [(0, .str a0), (1, .int .i64 a1), (4, .ptr 0 3 0), (9, .int .i64 (fW .i64 (z24.2 + 1)))]) (by kernel_rfl) ?_
    exact ih (fW .i64 (z24.2 + 1))
   ·let E8 : Env := [(44, .int .i64 z24.2), (43, .int .i64 a1), (42, .str a0), (39, .bool false), (0, .str a0), (1, .int .i64 a1), (4, .ptr 0 3 0), (9, .int .i64 z24.2), (39, .bool z24.1)]
    refine oR 7 (p' := (atN 3 (ctl1 g46p20))) (eE := E8) (H' := (mkH [⟨[.int .i64 0, .str [], .int .i64 0], 0, false⟩])) (by kernel_rfl) ?_
    refine oH (fun (x16_3 : (List Nat)) => (.str x16_3, (mkH [⟨[.int .i64 0, .str [], .int .i64 0], 0, false⟩]))) (atN 4 (ctl1 g46p20)) (fun x16_3 => ((45, .str x16_3) :: E8)) (subH (some a1) (some z24.2) (by kernel_rfl)) (fun _ => by kernel_rfl) (fun x16_3 hx16_3 => ?_)
    refine oC (fun (x16_4 : (List Nat)) => .str x16_4) (atN 5 (ctl1 g46p20)) (fun x16_4 => ((46, .str x16_4) :: (45, .str x16_3) :: E8)) (fi := 57) (args := [.str x16_3]) (by kernel_rfl) (by kernel_rfl) (fun _ => by kernel_rfl) (fun r h => g57_ok k x16_3 r h) (fun _ => by kernel_rfl) (fun x16_4 hx16_4 => ?_)
    let E9 : Env := ((5, .int .i64 0) :: (48, .agg [.int .i64 11, .str x16_4, .int .i64 a1]) :: (47, .int .i64 a1) :: (46, .str x16_4) :: (45, .str x16_3) :: E8)
    refine oR 6 (p' := .fin) (eE := E9) (H' := (mkH [⟨[.int .i64 11, .str x16_4, .int .i64 a1], 3, false⟩])) (by kernel_rfl) ?_
    exact oT (r := ((⟨(11 : Int), x16_4, a1⟩ : S46), (0 : Int))) (xs := [.agg [.int .i64 11, .str x16_4, .int .i64 a1], .int .i64 0]) (v := .tuple [.agg [.int .i64 11, .str x16_4, .int .i64 a1], .int .i64 0]) (by kernel_rfl) (by kernel_rfl) (by kernel_rfl) (.pures (by kernel_rfl)) (by kernel_rfl)
  ·refine oS 34 (b := decide (y18_0 < (a0.length : Int))) (by kernel_rfl) (fun hb => ?_) (fun hb => ?_)
   ·refine oR 2 (p' := (atN 7 (ctl1 g46p13))) (eE := ((36, .int .i64 y18_0) :: (35, .str a0) :: (34, .bool true) :: E6)) (H' := (mkH [⟨[.int .i64 0, .str [], .int .i64 0], 0, false⟩])) (by kernel_rfl) ?_
    refine oH (fun (x15_7 : Int) => (.int .u8 x15_7, (mkH [⟨[.int .i64 0, .str [], .int .i64 0], 0, false⟩]))) (atN 8 (ctl1 g46p13)) (fun x15_7 => ((37, .int .u8 x15_7) :: (36, .int .i64 y18_0) :: (35, .str a0) :: (34, .bool true) :: E6)) (idxH (by kernel_rfl)) (fun _ => by kernel_rfl) (fun x15_7 hx15_7 => ?_)
    let E10 : Env := ((39, .bool (!decide (x15_7 = 10))) :: (38, .bool (!decide (x15_7 = 10))) :: (37, .int .u8 x15_7) :: (36, .int .i64 y18_0) :: (35, .str a0) :: (34, .bool true) :: E6)
    refine oR 3 (p' := g46p16) (eE := E10) (H' := (mkH [⟨[.int .i64 0, .str [], .int .i64 0], 0, false⟩])) (by kernel_rfl) ?_
    refine oK [0, 1, 4, 9, 39] (eE := [(0, .str a0), (1, .int .i64 a1), (4, .ptr 0 3 0), (9, .int .i64 y18_0), (39, .bool (!decide (x15_7 = 10)))]) (by kernel_rfl) ?_
    exact hj24 (!decide (x15_7 = 10), y18_0)
   ·let E11 : Env := ((39, .bool false) :: (38, .tuple []) :: (37, .tuple []) :: (36, .tuple []) :: (35, .tuple []) :: (34, .bool false) :: E6)
    refine oR 6 (p' := g46p16) (eE := E11) (H' := (mkH [⟨[.int .i64 0, .str [], .int .i64 0], 0, false⟩])) (by kernel_rfl) ?_
    refine oK [0, 1, 4, 9, 39] (eE := [(0, .str a0), (1, .int .i64 a1), (4, .ptr 0 3 0), (9, .int .i64 y18_0), (39, .bool false)]) (by kernel_rfl) ?_
    exact hj24 (false, y18_0)
def g46 (k : Nat) (a0 : (List Nat)) (a1 : Int) : Option (S46 × Int) :=
 jn (fun (z17 : Bool) => if z17 then (some ((⟨(0 : Int), ([] : List Nat), (0 : Int)⟩ : S46), (4 : Int))) else ((nthS a0 a1).bind fun x0_2 => if (decide (x0_2 = 37)) then (g46_l18 k a0 a1 k a1) else (jn (fun (z19 : Bool) => jn (fun (z20 : Int × Int) => if (decide (z20.2 = 0)) then (some ((⟨(0 : Int), ([] : List Nat), (0 : Int)⟩ : S46), (4 : Int))) else ((subL a0 (some a1) (some (fW .i64 (a1 + z20.2)))).bind fun x14_6 => some ((⟨z20.1, x14_6, a1⟩ : S46), (0 : Int)))) (fun j20 => if z19 then (j20 (10, 1)) else ((g58 k x0_2).bind fun x2_1 => if (decide (x2_1 = 3)) then ((g59 k a0 a1).bind fun x3_2 => some ((⟨x3_2.1.f0, x3_2.1.f1, x3_2.1.f2⟩ : S46), x3_2.2)) else ((g58 k x0_2).bind fun x4_1 => if (decide (0 < x4_1)) then ((g58 k x0_2).bind fun x5_1 => (g60 k a0 a1).bind fun x5_4 => (subL a0 (some a1) (some (fW .i64 (a1 + fW .i64 (x5_4 - a1))))).bind fun x6_5 => (g61 k x6_5).bind fun x6_6 => if x6_6 then (j20 (8, fW .i64 (x5_4 - a1))) else (j20 (x5_1, fW .i64 (x5_4 - a1)))) else (if (decide (x0_2 = 39)) then ((g62 k a0 a1).bind fun x7_2 => j20 (1, x7_2)) else (if (decide (x0_2 = 34)) then ((g62 k a0 a1).bind fun x8_2 => j20 (6, x8_2)) else (if (decide (x0_2 = 36)) then ((g63 k a0 a1).bind fun x9_2 => j20 (5, x9_2)) else (if (decide (x0_2 = 63)) then (jn (fun (z21 : Bool) => jn (fun (z22 : Int) => jn (fun (z23 : Bool) => if z23 then ((g60 k a0 z22).bind fun x13_2 => j20 (7, fW .i64 (x13_2 - a1))) else (j20 (0, 0))) (fun j23 => if (decide (z22 < (a0.length : Int))) then ((nthS a0 z22).bind fun x12_7 => (g64 k x12_7).bind fun x12_8 => if x12_8 then (j23 true) else ((nthS a0 z22).bind fun x12_12 => j23 (decide (x12_12 = 95)))) else (j23 false))) (fun j22 => if z21 then (j22 (fW .i64 (fW .i64 (a1 + 1) + 1))) else (j22 (fW .i64 (a1 + 1))))) (fun j21 => if (decide (fW .i64 (a1 + 1) < (a0.length : Int))) then ((nthS a0 (fW .i64 (a1 + 1))).bind fun x10_7 => j21 (decide (x10_7 = 63))) else (j21 false))) else ((g65 k a0 a1).bind fun x11_2 => j20 (9, x11_2)))))))))) (fun j19 => if (decide (x0_2 = 46)) then (if (decide (fW .i64 (a1 + 1) = (a0.length : Int))) then (j19 true) else ((nthS a0 (fW .i64 (a1 + 1))).bind fun x1_12 => if (decide (x1_12 = 37)) then (j19 true) else ((g45 k a0 (fW .i64 (a1 + 1))).bind fun x1_19 => j19 (decide (fW .i64 (a1 + 1) < x1_19))))) else (j19 false))))) (fun j17 => if (decide (a1 < 0)) then (j17 true) else (j17 (decide ((a0.length : Int) ≤ a1))))
theorem g46_ok (k : Nat) (a0 : (List Nat)) (a1 : Int) (r : (S46 × Int)) (h : g46 k a0 a1 = some r) : PureOk Try.prog 46 [.str a0, .int .i64 a1] (.tuple [.agg [.int .i64 r.1.f0, .str r.1.f1, .int .i64 r.1.f2], .int .i64 r.2]) := by
 refine pure_of X46 (fun _ => rfl) Try.func46 (by decide +kernel) (by kernel_rfl) (t := g46 k a0 a1) ?_ h
 unfold g46
 refine oE (eE := [(0, .str a0), (1, .int .i64 a1)]) (by kernel_rfl) ?_
 let E1 : Env := [(13, .bool (decide (a1 < 0))), (12, .bool (decide (a1 < 0))), (11, .int .i64 a1), (5, .int .i64 0), (4, .ptr 0 3 0), (0, .str a0), (1, .int .i64 a1)]
 refine oR 11 (p' := (atN 3 (ctl1 g46p1))) (eE := E1) (H' := (mkH [⟨[.int .i64 0, .str [], .int .i64 0], 0, false⟩])) (by kernel_rfl) ?_
 refine oJ (f := fun (z17 : Bool) => if z17 then (some ((⟨(0 : Int), ([] : List Nat), (0 : Int)⟩ : S46), (4 : Int))) else ((nthS a0 a1).bind fun x0_2 => if (decide (x0_2 = 37)) then (g46_l18 k a0 a1 k a1) else (jn (fun (z19 : Bool) => jn (fun (z20 : Int × Int) => if (decide (z20.2 = 0)) then (some ((⟨(0 : Int), ([] : List Nat), (0 : Int)⟩ : S46), (4 : Int))) else ((subL a0 (some a1) (some (fW .i64 (a1 + z20.2)))).bind fun x14_6 => some ((⟨z20.1, x14_6, a1⟩ : S46), (0 : Int)))) (fun j20 => if z19 then (j20 (10, 1)) else ((g58 k x0_2).bind fun x2_1 => if (decide (x2_1 = 3)) then ((g59 k a0 a1).bind fun x3_2 => some ((⟨x3_2.1.f0, x3_2.1.f1, x3_2.1.f2⟩ : S46), x3_2.2)) else ((g58 k x0_2).bind fun x4_1 => if (decide (0 < x4_1)) then ((g58 k x0_2).bind fun x5_1 => (g60 k a0 a1).bind fun x5_4 => (subL a0 (some a1) (some (fW .i64 (a1 + fW .i64 (x5_4 - a1))))).bind fun x6_5 => (g61 k x6_5).bind fun x6_6 => if x6_6 then (j20 (8, fW .i64 (x5_4 - a1))) else (j20 (x5_1, fW .i64 (x5_4 - a1)))) else (if (decide (x0_2 = 39)) then ((g62 k a0 a1).bind fun x7_2 => j20 (1, x7_2)) else (if (decide (x0_2 = 34)) then ((g62 k a0 a1).bind fun x8_2 => j20 (6, x8_2)) else (if (decide (x0_2 = 36)) then ((g63 k a0 a1).bind fun x9_2 => j20 (5, x9_2)) else (if (decide (x0_2 = 63)) then (jn (fun (z21 : Bool) => jn (fun (z22 : Int) => jn (fun (z23 : Bool) => if z23 then ((g60 k a0 z22).bind fun x13_2 => j20 (7, fW .i64 (x13_2 - a1))) else (j20 (0, 0))) (fun j23 => if (decide (z22 < (a0.length : Int))) then ((nthS a0 z22).bind fun x12_7 => (g64 k x12_7).bind fun x12_8 => if x12_8 then (j23 true) else ((nthS a0 z22).bind fun x12_12 => j23 (decide (x12_12 = 95)))) else (j23 false))) (fun j22 => if z21 then (j22 (fW .i64 (fW .i64 (a1 + 1) + 1))) else (j22 (fW .i64 (a1 + 1))))) (fun j21 => if (decide (fW .i64 (a1 + 1) < (a0.length : Int))) then ((nthS a0 (fW .i64 (a1 + 1))).bind fun x10_7 => j21 (decide (x10_7 = 63))) else (j21 false))) else ((g65 k a0 a1).bind fun x11_2 => j20 (9, x11_2)))))))))) (fun j19 => if (decide (x0_2 = 46)) then (if (decide (fW .i64 (a1 + 1) = (a0.length : Int))) then (j19 true) else ((nthS a0 (fW .i64 (a1 + 1))).bind fun x1_12 => if (decide (x1_12 = 37)) then (j19 true) else ((g45 k a0 (fW .i64 (a1 + 1))).bind fun x1_19 => j19 (decide (fW .i64 (a1 + 1) < x1_19))))) else (j19 false))))) g46p2 (fun (z17 : Bool) => [(0, .str a0), (1, .int .i64 a1), (4, .ptr 0 3 0), (18, .bool z17)]) (fun (z17 : Bool) => (mkH [⟨[.int .i64 0, .str [], .int .i64 0], 0, false⟩])) (fun z17 => ?_) (fun j17 hj17 => ?_)
 ·refine oS 18 (b := z17) (by kernel_rfl) (fun hb => ?_) (fun hb => ?_)
  ·let E2 : Env := [(5, .int .i64 4), (19, .agg [.int .i64 0, .str [], .int .i64 0]), (18, .bool true), (0, .str a0), (1, .int .i64 a1), (4, .ptr 0 3 0), (18, .bool z17)]
   refine oR 8 (p' := .fin) (eE := E2) (H' := (mkH [⟨[.int .i64 0, .str [], .int .i64 0], 3, false⟩])) (by kernel_rfl) ?_
   exact oT (r := ((⟨(0 : Int), ([] : List Nat), (0 : Int)⟩ : S46), (4 : Int))) (xs := [.agg [.int .i64 0, .str [], .int .i64 0], .int .i64 4]) (v := .tuple [.agg [.int .i64 0, .str [], .int .i64 0], .int .i64 4]) (by kernel_rfl) (by kernel_rfl) (by kernel_rfl) (.pures (by kernel_rfl)) (by kernel_rfl)
  ·let E3 : Env := [(21, .int .i64 a1), (20, .str a0), (18, .bool false), (0, .str a0), (1, .int .i64 a1), (4, .ptr 0 3 0), (18, .bool z17)]
   refine oR 6 (p' := (atN 2 (ctl1 g46p4))) (eE := E3) (H' := (mkH [⟨[.int .i64 0, .str [], .int .i64 0], 0, false⟩])) (by kernel_rfl) ?_
   refine oH (fun (x0_2 : Int) => (.int .u8 x0_2, (mkH [⟨[.int .i64 0, .str [], .int .i64 0], 0, false⟩]))) (atN 3 (ctl1 g46p4)) (fun x0_2 => ((22, .int .u8 x0_2) :: E3)) (idxH (by kernel_rfl)) (fun _ => by kernel_rfl) (fun x0_2 hx0_2 => ?_)
   let E4 : Env := ((26, .bool (decide (x0_2 = 37))) :: (28, .bool (decide (x0_2 = 37))) :: (27, .int .u8 x0_2) :: (8, .int .i64 0) :: (7, .int .i64 0) :: (6, .int .u8 x0_2) :: (22, .int .u8 x0_2) :: E3)
   refine oR 15 (p' := g46p8) (eE := E4) (H' := (mkH [⟨[.int .i64 0, .str [], .int .i64 0], 0, false⟩])) (by kernel_rfl) ?_
   refine oK [0, 1, 4, 6, 7, 8, 26] (eE := [(0, .str a0), (1, .int .i64 a1), (4, .ptr 0 3 0), (6, .int .u8 x0_2), (7, .int .i64 0), (8, .int .i64 0), (26, .bool (decide (x0_2 = 37)))]) (by kernel_rfl) ?_
   refine oS 26 (b := decide (x0_2 = 37)) (by kernel_rfl) (fun hb => ?_) (fun hb => ?_)
   ·let E5 : Env := [(9, .int .i64 a1), (29, .int .i64 a1), (26, .bool true), (0, .str a0), (1, .int .i64 a1), (4, .ptr 0 3 0), (6, .int .u8 x0_2), (7, .int .i64 0), (8, .int .i64 0), (26, .bool (decide (x0_2 = 37)))]
    refine oR 9 (p' := g46p11) (eE := E5) (H' := (mkH [⟨[.int .i64 0, .str [], .int .i64 0], 0, false⟩])) (by kernel_rfl) ?_
    refine oK [0, 1, 4, 9] (eE := [(0, .str a0), (1, .int .i64 a1), (4, .ptr 0 3 0), (9, .int .i64 a1)]) (by kernel_rfl) ?_
    exact (g46_l18_ok k a0 a1 k) a1
   ·let E12 : Env := [(52, .bool (decide (x0_2 = 46))), (51, .bool (decide (x0_2 = 46))), (50, .int .u8 x0_2), (26, .bool false), (0, .str a0), (1, .int .i64 a1), (4, .ptr 0 3 0), (6, .int .u8 x0_2), (7, .int .i64 0), (8, .int .i64 0), (26, .bool (decide (x0_2 = 37)))]
    refine oR 6 (p' := (atN 3 (ctl1 g46p10))) (eE := E12) (H' := (mkH [⟨[.int .i64 0, .str [], .int .i64 0], 0, false⟩])) (by kernel_rfl) ?_
    refine oJ (f := fun (z19 : Bool) => jn (fun (z20 : Int × Int) => if (decide (z20.2 = 0)) then (some ((⟨(0 : Int), ([] : List Nat), (0 : Int)⟩ : S46), (4 : Int))) else ((subL a0 (some a1) (some (fW .i64 (a1 + z20.2)))).bind fun x14_6 => some ((⟨z20.1, x14_6, a1⟩ : S46), (0 : Int)))) (fun j20 => if z19 then (j20 (10, 1)) else ((g58 k x0_2).bind fun x2_1 => if (decide (x2_1 = 3)) then ((g59 k a0 a1).bind fun x3_2 => some ((⟨x3_2.1.f0, x3_2.1.f1, x3_2.1.f2⟩ : S46), x3_2.2)) else ((g58 k x0_2).bind fun x4_1 => if (decide (0 < x4_1)) then ((g58 k x0_2).bind fun x5_1 => (g60 k a0 a1).bind fun x5_4 => (subL a0 (some a1) (some (fW .i64 (a1 + fW .i64 (x5_4 - a1))))).bind fun x6_5 => (g61 k x6_5).bind fun x6_6 => if x6_6 then (j20 (8, fW .i64 (x5_4 - a1))) else (j20 (x5_1, fW .i64 (x5_4 - a1)))) else (if (decide (x0_2 = 39)) then ((g62 k a0 a1).bind fun x7_2 => j20 (1, x7_2)) else (if (decide (x0_2 = 34)) then ((g62 k a0 a1).bind fun x8_2 => j20 (6, x8_2)) else (if (decide (x0_2 = 36)) then ((g63 k a0 a1).bind fun x9_2 => j20 (5, x9_2)) else (if (decide (x0_2 = 63)) then (jn (fun (z21 : Bool) => jn (fun (z22 : Int) => jn (fun (z23 : Bool) => if z23 then ((g60 k a0 z22).bind fun x13_2 => j20 (7, fW .i64 (x13_2 - a1))) else (j20 (0, 0))) (fun j23 => if (decide (z22 < (a0.length : Int))) then ((nthS a0 z22).bind fun x12_7 => (g64 k x12_7).bind fun x12_8 => if x12_8 then (j23 true) else ((nthS a0 z22).bind fun x12_12 => j23 (decide (x12_12 = 95)))) else (j23 false))) (fun j22 => if z21 then (j22 (fW .i64 (fW .i64 (a1 + 1) + 1))) else (j22 (fW .i64 (a1 + 1))))) (fun j21 => if (decide (fW .i64 (a1 + 1) < (a0.length : Int))) then ((nthS a0 (fW .i64 (a1 + 1))).bind fun x10_7 => j21 (decide (x10_7 = 63))) else (j21 false))) else ((g65 k a0 a1).bind fun x11_2 => j20 (9, x11_2)))))))))) g46p12 (fun (z19 : Bool) => [(0, .str a0), (1, .int .i64 a1), (4, .ptr 0 3 0), (6, .int .u8 x0_2), (7, .int .i64 0), (8, .int .i64 0), (49, .bool z19)]) (fun (z19 : Bool) => (mkH [⟨[.int .i64 0, .str [], .int .i64 0], 0, false⟩])) (fun z19 => ?_) (fun j19 hj19 => ?_)
    ·refine oJ (f := fun (z20 : Int × Int) => if (decide (z20.2 = 0)) then (some ((⟨(0 : Int), ([] : List Nat), (0 : Int)⟩ : S46), (4 : Int))) else ((subL a0 (some a1) (some (fW .i64 (a1 + z20.2)))).bind fun x14_6 => some ((⟨z20.1, x14_6, a1⟩ : S46), (0 : Int)))) g46p17 (fun (z20 : Int × Int) => [(0, .str a0), (1, .int .i64 a1), (4, .ptr 0 3 0), (7, .int .i64 z20.1), (8, .int .i64 z20.2)]) (fun (z20 : Int × Int) => (mkH [⟨[.int .i64 0, .str [], .int .i64 0], 0, false⟩])) (fun z20 => ?_) (fun j20 hj20 => ?_)
     ·let E13 : Env := [(159, .bool (decide (z20.2 = 0))), (158, .int .i64 z20.2), (0, .str a0), (1, .int .i64 a1), (4, .ptr 0 3 0), (7, .int .i64 z20.1), (8, .int .i64 z20.2)]
      refine oR 4 (p' := g46p21) (eE := E13) (H' := (mkH [⟨[.int .i64 0, .str [], .int .i64 0], 0, false⟩])) (by kernel_rfl) ?_
      refine oS 159 (b := decide (z20.2 = 0)) (by kernel_rfl) (fun hb => ?_) (fun hb => ?_)
      ·refine oR 8 (p' := .fin) (eE := ((5, .int .i64 4) :: (160, .agg [.int .i64 0, .str [], .int .i64 0]) :: (159, .bool true) :: E13)) (H' := (mkH [⟨[.int .i64 0, .str [], .int .i64 0], 3, false⟩])) (by kernel_rfl) ?_
       exact oT (r := ((⟨(0 : Int), ([] : List Nat), (0 : Int)⟩ : S46), (4 : Int))) (xs := [.agg [.int .i64 0, .str [], .int .i64 0], .int .i64 4]) (v := .tuple [.agg [.int .i64 0, .str [], .int .i64 0], .int .i64 4]) (by kernel_rfl) (by kernel_rfl) (by kernel_rfl) (.pures (by kernel_rfl)) (by kernel_rfl)
      ·let E14 : Env := ((166, .int .i64 (fW .i64 (a1 + z20.2))) :: (165, .int .i64 z20.2) :: (164, .int .i64 a1) :: (163, .int .i64 a1) :: (162, .str a0) :: (161, .int .i64 z20.1) :: (159, .bool false) :: E13)
       refine oR 10 (p' := (atN 6 (ctl1 g46p25))) (eE := E14) (H' := (mkH [⟨[.int .i64 0, .str [], .int .i64 0], 0, false⟩])) (by kernel_rfl) ?_
       refine oH (fun (x14_6 : (List Nat)) => (.str x14_6, (mkH [⟨[.int .i64 0, .str [], .int .i64 0], 0, false⟩]))) (atN 7 (ctl1 g46p25)) (fun x14_6 => ((167, .str x14_6) :: E14)) (subH (some a1) (some (fW .i64 (a1 + z20.2))) (by kernel_rfl)) (fun _ => by kernel_rfl) (fun x14_6 hx14_6 => ?_)
       refine oR 6 (p' := .fin) (eE := ((5, .int .i64 0) :: (169, .agg [.int .i64 z20.1, .str x14_6, .int .i64 a1]) :: (168, .int .i64 a1) :: (167, .str x14_6) :: E14)) (H' := (mkH [⟨[.int .i64 z20.1, .str x14_6, .int .i64 a1], 3, false⟩])) (by kernel_rfl) ?_
       exact oT (r := ((⟨z20.1, x14_6, a1⟩ : S46), (0 : Int))) (xs := [.agg [.int .i64 z20.1, .str x14_6, .int .i64 a1], .int .i64 0]) (v := .tuple [.agg [.int .i64 z20.1, .str x14_6, .int .i64 a1], .int .i64 0]) (by kernel_rfl) (by kernel_rfl) (by kernel_rfl) (.pures (by kernel_rfl)) (by kernel_rfl)
     ·refine oS 49 (b := z19) (by kernel_rfl) (fun hb => ?_) (fun hb => ?_)
      ·let E15 : Env := [(8, .int .i64 1), (7, .int .i64 10), (49, .bool true), (0, .str a0), (1, .int .i64 a1), (4, .ptr 0 3 0), (6, .int .u8 x0_2), (7, .int .i64 0), (8, .int .i64 0), (49, .bool z19)]
       refine oR 7 (p' := g46p17) (eE := E15) (H' := (mkH [⟨[.int .i64 0, .str [], .int .i64 0], 0, false⟩])) (by kernel_rfl) ?_
       refine oK [0, 1, 4, 7, 8] (eE := [(0, .str a0), (1, .int .i64 a1), (4, .ptr 0 3 0), (7, .int .i64 10), (8, .int .i64 1)]) (by kernel_rfl) ?_
       exact hj20 (10, 1)
      ·let E16 : Env := [(76, .int .u8 x0_2), (49, .bool false), (0, .str a0), (1, .int .i64 a1), (4, .ptr 0 3 0), (6, .int .u8 x0_2), (7, .int .i64 0), (8, .int .i64 0), (49, .bool z19)]
       refine oR 4 (p' := (atN 1 (ctl1 g46p15))) (eE := E16) (H' := (mkH [⟨[.int .i64 0, .str [], .int .i64 0], 0, false⟩])) (by kernel_rfl) ?_
       refine oC (fun (x2_1 : Int) => .int .i64 x2_1) (atN 2 (ctl1 g46p15)) (fun x2_1 => ((77, .int .i64 x2_1) :: E16)) (fi := 58) (args := [.int .u8 x0_2]) (by kernel_rfl) (by kernel_rfl) (fun _ => by kernel_rfl) (fun r h => g58_ok k x0_2 r h) (fun _ => by kernel_rfl) (fun x2_1 hx2_1 => ?_)
       refine oR 3 (p' := g46p18) (eE := ((75, .bool (decide (x2_1 = 3))) :: (78, .bool (decide (x2_1 = 3))) :: (77, .int .i64 x2_1) :: E16)) (H' := (mkH [⟨[.int .i64 0, .str [], .int .i64 0], 0, false⟩])) (by kernel_rfl) ?_
       refine oS 75 (b := decide (x2_1 = 3)) (by kernel_rfl) (fun hb => ?_) (fun hb => ?_)
       ·let E17 : Env := ((80, .int .i64 a1) :: (79, .str a0) :: (75, .bool true) :: (75, .bool (decide (x2_1 = 3))) :: (78, .bool (decide (x2_1 = 3))) :: (77, .int .i64 x2_1) :: E16)
        refine oR 5 (p' := (atN 2 (ctl1 g46p22))) (eE := E17) (H' := (mkH [⟨[.int .i64 0, .str [], .int .i64 0], 0, false⟩])) (by kernel_rfl) ?_
        refine oC (fun (x3_2 : (S46 × Int)) => .tuple [.agg [.int .i64 x3_2.1.f0, .str x3_2.1.f1, .int .i64 x3_2.1.f2], .int .i64 x3_2.2]) (atN 3 (ctl1 g46p22)) (fun x3_2 => ((81, .tuple [.agg [.int .i64 x3_2.1.f0, .str x3_2.1.f1, .int .i64 x3_2.1.f2], .int .i64 x3_2.2]) :: E17)) (fi := 59) (args := [.str a0, .int .i64 a1]) (by kernel_rfl) (by kernel_rfl) (fun _ => by kernel_rfl) (fun r h => g59_ok k a0 a1 r h) (fun _ => by kernel_rfl) (fun x3_2 hx3_2 => ?_)
        refine oR 6 (p' := .fin) (eE := ((5, .int .i64 x3_2.2) :: (83, .int .i64 x3_2.2) :: (82, .agg [.int .i64 x3_2.1.f0, .str x3_2.1.f1, .int .i64 x3_2.1.f2]) :: (81, .tuple [.agg [.int .i64 x3_2.1.f0, .str x3_2.1.f1, .int .i64 x3_2.1.f2], .int .i64 x3_2.2]) :: E17)) (H' := (mkH [⟨[.int .i64 x3_2.1.f0, .str x3_2.1.f1, .int .i64 x3_2.1.f2], 3, false⟩])) (by kernel_rfl) ?_
        exact oT (r := ((⟨x3_2.1.f0, x3_2.1.f1, x3_2.1.f2⟩ : S46), x3_2.2)) (xs := [.agg [.int .i64 x3_2.1.f0, .str x3_2.1.f1, .int .i64 x3_2.1.f2], .int .i64 x3_2.2]) (v := .tuple [.agg [.int .i64 x3_2.1.f0, .str x3_2.1.f1, .int .i64 x3_2.1.f2], .int .i64 x3_2.2]) (by kernel_rfl) (by kernel_rfl) (by kernel_rfl) (.pures (by kernel_rfl)) (by kernel_rfl)
       ·let E18 : Env := ((85, .int .u8 x0_2) :: (75, .bool false) :: (75, .bool (decide (x2_1 = 3))) :: (78, .bool (decide (x2_1 = 3))) :: (77, .int .i64 x2_1) :: E16)
        refine oR 4 (p' := (atN 1 (ctl1 g46p23))) (eE := E18) (H' := (mkH [⟨[.int .i64 0, .str [], .int .i64 0], 0, false⟩])) (by kernel_rfl) ?_
        refine oC (fun (x4_1 : Int) => .int .i64 x4_1) (atN 2 (ctl1 g46p23)) (fun x4_1 => ((86, .int .i64 x4_1) :: E18)) (fi := 58) (args := [.int .u8 x0_2]) (by kernel_rfl) (by kernel_rfl) (fun _ => by kernel_rfl) (fun r h => g58_ok k x0_2 r h) (fun _ => by kernel_rfl) (fun x4_1 hx4_1 => ?_)
        refine oR 3 (p' := g46p26) (eE := ((84, .bool (decide (0 < x4_1))) :: (87, .bool (decide (0 < x4_1))) :: (86, .int .i64 x4_1) :: E18)) (H' := (mkH [⟨[.int .i64 0, .str [], .int .i64 0], 0, false⟩])) (by kernel_rfl) ?_
        refine oK [0, 1, 4, 6, 7, 8, 84] (eE := [(0, .str a0), (1, .int .i64 a1), (4, .ptr 0 3 0), (6, .int .u8 x0_2), (7, .int .i64 0), (8, .int .i64 0), (84, .bool (decide (0 < x4_1)))]) (by kernel_rfl) ?_
        refine oS 84 (b := decide (0 < x4_1)) (by kernel_rfl) (fun hb => ?_) (fun hb => ?_)
        ·let E19 : Env := [(88, .int .u8 x0_2), (84, .bool true), (0, .str a0), (1, .int .i64 a1), (4, .ptr 0 3 0), (6, .int .u8 x0_2), (7, .int .i64 0), (8, .int .i64 0), (84, .bool (decide (0 < x4_1)))]
         refine oR 4 (p' := (atN 1 (ctl1 g46p27))) (eE := E19) (H' := (mkH [⟨[.int .i64 0, .str [], .int .i64 0], 0, false⟩])) (by kernel_rfl) ?_
         refine oC (fun (x5_1 : Int) => .int .i64 x5_1) (atN 2 (ctl1 g46p27)) (fun x5_1 => ((89, .int .i64 x5_1) :: E19)) (fi := 58) (args := [.int .u8 x0_2]) (by kernel_rfl) (by kernel_rfl) (fun _ => by kernel_rfl) (fun r h => g58_ok k x0_2 r h) (fun _ => by kernel_rfl) (fun x5_1 hx5_1 => ?_)
         refine oR 2 (p' := (atN 4 (ctl1 g46p27))) (eE := ((91, .int .i64 a1) :: (90, .str a0) :: (89, .int .i64 x5_1) :: E19)) (H' := (mkH [⟨[.int .i64 0, .str [], .int .i64 0], 0, false⟩])) (by kernel_rfl) ?_
         refine oC (fun (x5_4 : Int) => .int .i64 x5_4) (atN 5 (ctl1 g46p27)) (fun x5_4 => ((92, .int .i64 x5_4) :: (91, .int .i64 a1) :: (90, .str a0) :: (89, .int .i64 x5_1) :: E19)) (fi := 60) (args := [.str a0, .int .i64 a1]) (by kernel_rfl) (by kernel_rfl) (fun _ => by kernel_rfl) (fun r h => g60_ok k a0 a1 r h) (fun _ => by kernel_rfl) (fun x5_4 hx5_4 => ?_)
         let E20 : Env := ((8, .int .i64 (fW .i64 (x5_4 - a1))) :: (7, .int .i64 x5_1) :: (94, .int .i64 (fW .i64 (x5_4 - a1))) :: (93, .int .i64 a1) :: (92, .int .i64 x5_4) :: (91, .int .i64 a1) :: (90, .str a0) :: (89, .int .i64 x5_1) :: E19)
         refine oR 6 (p' := g46p29) (eE := E20) (H' := (mkH [⟨[.int .i64 0, .str [], .int .i64 0], 0, false⟩])) (by kernel_rfl) ?_
         refine oK [0, 1, 4, 7, 8] (eE := [(0, .str a0), (1, .int .i64 a1), (4, .ptr 0 3 0), (7, .int .i64 x5_1), (8, .int .i64 (fW .i64 (x5_4 - a1)))]) (by kernel_rfl) ?_
         let E21 : Env := [(99, .int .i64 (fW .i64 (a1 + fW .i64 (x5_4 - a1)))), (98, .int .i64 (fW .i64 (x5_4 - a1))), (97, .int .i64 a1), (96, .int .i64 a1), (95, .str a0), (0, .str a0), (1, .int .i64 a1), (4, .ptr 0 3 0), (7, .int .i64 x5_1), (8, .int .i64 (fW .i64 (x5_4 - a1)))]
         refine oR 6 (p' := (atN 5 (ctl1 g46p29))) (eE := E21) (H' := (mkH [⟨[.int .i64 0, .str [], .int .i64 0], 0, false⟩])) (by kernel_rfl) ?_
         refine oH (fun (x6_5 : (List Nat)) => (.str x6_5, (mkH [⟨[.int .i64 0, .str [], .int .i64 0], 0, false⟩]))) (atN 6 (ctl1 g46p29)) (fun x6_5 => ((100, .str x6_5) :: E21)) (subH (some a1) (some (fW .i64 (a1 + fW .i64 (x5_4 - a1)))) (by kernel_rfl)) (fun _ => by kernel_rfl) (fun x6_5 hx6_5 => ?_)
         refine oC (fun (x6_6 : Bool) => .bool x6_6) (atN 7 (ctl1 g46p29)) (fun x6_6 => ((101, .bool x6_6) :: (100, .str x6_5) :: E21)) (fi := 61) (args := [.str x6_5]) (by kernel_rfl) (by kernel_rfl) (fun _ => by kernel_rfl) (fun r h => g61_ok k x6_5 r h) (fun _ => by kernel_rfl) (fun x6_6 hx6_6 => ?_)
         refine oR 1 (p' := g46p31) (eE := ((101, .bool x6_6) :: (100, .str x6_5) :: E21)) (H' := (mkH [⟨[.int .i64 0, .str [], .int .i64 0], 0, false⟩])) (by kernel_rfl) ?_
         refine oS 101 (b := x6_6) (by kernel_rfl) (fun hb => ?_) (fun hb => ?_)
         ·refine oR 6 (p' := g46p17) (eE := ((7, .int .i64 8) :: (101, .bool true) :: (101, .bool x6_6) :: (100, .str x6_5) :: E21)) (H' := (mkH [⟨[.int .i64 0, .str [], .int .i64 0], 0, false⟩])) (by kernel_rfl) ?_
          refine oK [0, 1, 4, 7, 8] (eE := [(0, .str a0), (1, .int .i64 a1), (4, .ptr 0 3 0), (7, .int .i64 8), (8, .int .i64 (fW .i64 (x5_4 - a1)))]) (by kernel_rfl) ?_
          exact hj20 (8, fW .i64 (x5_4 - a1))
         ·refine oR 4 (p' := g46p17) (eE := ((101, .bool false) :: (101, .bool x6_6) :: (100, .str x6_5) :: E21)) (H' := (mkH [⟨[.int .i64 0, .str [], .int .i64 0], 0, false⟩])) (by kernel_rfl) ?_
          refine oK [0, 1, 4, 7, 8] (eE := [(0, .str a0), (1, .int .i64 a1), (4, .ptr 0 3 0), (7, .int .i64 x5_1), (8, .int .i64 (fW .i64 (x5_4 - a1)))]) (by kernel_rfl) ?_
          exact hj20 (x5_1, fW .i64 (x5_4 - a1))
        ·let E22 : Env := [(102, .bool (decide (x0_2 = 39))), (104, .bool (decide (x0_2 = 39))), (103, .int .u8 x0_2), (84, .bool false), (0, .str a0), (1, .int .i64 a1), (4, .ptr 0 3 0), (6, .int .u8 x0_2), (7, .int .i64 0), (8, .int .i64 0), (84, .bool (decide (0 < x4_1)))]
         refine oR 7 (p' := g46p30) (eE := E22) (H' := (mkH [⟨[.int .i64 0, .str [], .int .i64 0], 0, false⟩])) (by kernel_rfl) ?_
         refine oS 102 (b := decide (x0_2 = 39)) (by kernel_rfl) (fun hb => ?_) (fun hb => ?_)
         ·refine oR 4 (p' := (atN 2 (ctl1 g46p32))) (eE := ((106, .int .i64 a1) :: (105, .str a0) :: (102, .bool true) :: E22)) (H' := (mkH [⟨[.int .i64 0, .str [], .int .i64 0], 0, false⟩])) (by kernel_rfl) ?_
          refine oC (fun (x7_2 : Int) => .int .i64 x7_2) (atN 3 (ctl1 g46p32)) (fun x7_2 => ((107, .int .i64 x7_2) :: (106, .int .i64 a1) :: (105, .str a0) :: (102, .bool true) :: E22)) (fi := 62) (args := [.str a0, .int .i64 a1]) (by kernel_rfl) (by kernel_rfl) (fun _ => by kernel_rfl) (fun r h => g62_ok k a0 a1 r h) (fun _ => by kernel_rfl) (fun x7_2 hx7_2 => ?_)
          let E23 : Env := ((8, .int .i64 x7_2) :: (7, .int .i64 1) :: (107, .int .i64 x7_2) :: (106, .int .i64 a1) :: (105, .str a0) :: (102, .bool true) :: E22)
          refine oR 5 (p' := g46p17) (eE := E23) (H' := (mkH [⟨[.int .i64 0, .str [], .int .i64 0], 0, false⟩])) (by kernel_rfl) ?_
          refine oK [0, 1, 4, 7, 8] (eE := [(0, .str a0), (1, .int .i64 a1), (4, .ptr 0 3 0), (7, .int .i64 1), (8, .int .i64 x7_2)]) (by kernel_rfl) ?_
          exact hj20 (1, x7_2)
         ·refine oR 7 (p' := g46p35) (eE := ((108, .bool (decide (x0_2 = 34))) :: (110, .bool (decide (x0_2 = 34))) :: (109, .int .u8 x0_2) :: (102, .bool false) :: E22)) (H' := (mkH [⟨[.int .i64 0, .str [], .int .i64 0], 0, false⟩])) (by kernel_rfl) ?_
          refine oK [0, 1, 4, 6, 7, 8, 108] (eE := [(0, .str a0), (1, .int .i64 a1), (4, .ptr 0 3 0), (6, .int .u8 x0_2), (7, .int .i64 0), (8, .int .i64 0), (108, .bool (decide (x0_2 = 34)))]) (by kernel_rfl) ?_
          refine oS 108 (b := decide (x0_2 = 34)) (by kernel_rfl) (fun hb => ?_) (fun hb => ?_)
          ·let E24 : Env := [(112, .int .i64 a1), (111, .str a0), (108, .bool true), (0, .str a0), (1, .int .i64 a1), (4, .ptr 0 3 0), (6, .int .u8 x0_2), (7, .int .i64 0), (8, .int .i64 0), (108, .bool (decide (x0_2 = 34)))]
           refine oR 4 (p' := (atN 2 (ctl1 g46p36))) (eE := E24) (H' := (mkH [⟨[.int .i64 0, .str [], .int .i64 0], 0, false⟩])) (by kernel_rfl) ?_
           refine oC (fun (x8_2 : Int) => .int .i64 x8_2) (atN 3 (ctl1 g46p36)) (fun x8_2 => ((113, .int .i64 x8_2) :: E24)) (fi := 62) (args := [.str a0, .int .i64 a1]) (by kernel_rfl) (by kernel_rfl) (fun _ => by kernel_rfl) (fun r h => g62_ok k a0 a1 r h) (fun _ => by kernel_rfl) (fun x8_2 hx8_2 => ?_)
           refine oR 5 (p' := g46p17) (eE := ((8, .int .i64 x8_2) :: (7, .int .i64 6) :: (113, .int .i64 x8_2) :: E24)) (H' := (mkH [⟨[.int .i64 0, .str [], .int .i64 0], 0, false⟩])) (by kernel_rfl) ?_
           refine oK [0, 1, 4, 7, 8] (eE := [(0, .str a0), (1, .int .i64 a1), (4, .ptr 0 3 0), (7, .int .i64 6), (8, .int .i64 x8_2)]) (by kernel_rfl) ?_
           exact hj20 (6, x8_2)
          ·let E25 : Env := [(114, .bool (decide (x0_2 = 36))), (116, .bool (decide (x0_2 = 36))), (115, .int .u8 x0_2), (108, .bool false), (0, .str a0), (1, .int .i64 a1), (4, .ptr 0 3 0), (6, .int .u8 x0_2), (7, .int .i64 0), (8, .int .i64 0), (108, .bool (decide (x0_2 = 34)))]
           refine oR 7 (p' := g46p38) (eE := E25) (H' := (mkH [⟨[.int .i64 0, .str [], .int .i64 0], 0, false⟩])) (by kernel_rfl) ?_
           refine oS 114 (b := decide (x0_2 = 36)) (by kernel_rfl) (fun hb => ?_) (fun hb => ?_)
           ·refine oR 4 (p' := (atN 2 (ctl1 g46p39))) (eE := ((118, .int .i64 a1) :: (117, .str a0) :: (114, .bool true) :: E25)) (H' := (mkH [⟨[.int .i64 0, .str [], .int .i64 0], 0, false⟩])) (by kernel_rfl) ?_
            refine oC (fun (x9_2 : Int) => .int .i64 x9_2) (atN 3 (ctl1 g46p39)) (fun x9_2 => ((119, .int .i64 x9_2) :: (118, .int .i64 a1) :: (117, .str a0) :: (114, .bool true) :: E25)) (fi := 63) (args := [.str a0, .int .i64 a1]) (by kernel_rfl) (by kernel_rfl) (fun _ => by kernel_rfl) (fun r h => g63_ok k a0 a1 r h) (fun _ => by kernel_rfl) (fun x9_2 hx9_2 => ?_)
            let E26 : Env := ((8, .int .i64 x9_2) :: (7, .int .i64 5) :: (119, .int .i64 x9_2) :: (118, .int .i64 a1) :: (117, .str a0) :: (114, .bool true) :: E25)
            refine oR 5 (p' := g46p17) (eE := E26) (H' := (mkH [⟨[.int .i64 0, .str [], .int .i64 0], 0, false⟩])) (by kernel_rfl) ?_
            refine oK [0, 1, 4, 7, 8] (eE := [(0, .str a0), (1, .int .i64 a1), (4, .ptr 0 3 0), (7, .int .i64 5), (8, .int .i64 x9_2)]) (by kernel_rfl) ?_
            exact hj20 (5, x9_2)
           ·refine oR 7 (p' := g46p41) (eE := ((120, .bool (decide (x0_2 = 63))) :: (122, .bool (decide (x0_2 = 63))) :: (121, .int .u8 x0_2) :: (114, .bool false) :: E25)) (H' := (mkH [⟨[.int .i64 0, .str [], .int .i64 0], 0, false⟩])) (by kernel_rfl) ?_
            refine oK [0, 1, 4, 7, 8, 120] (eE := [(0, .str a0), (1, .int .i64 a1), (4, .ptr 0 3 0), (7, .int .i64 0), (8, .int .i64 0), (120, .bool (decide (x0_2 = 63)))]) (by kernel_rfl) ?_
            refine oS 120 (b := decide (x0_2 = 63)) (by kernel_rfl) (fun hb => ?_) (fun hb => ?_)
            ·let E27 : Env := [(129, .bool (decide (fW .i64 (a1 + 1) < (a0.length : Int)))), (128, .bool (decide (fW .i64 (a1 + 1) < (a0.length : Int)))), (127, .int .i64 (a0.length : Int)), (126, .str a0), (125, .int .i64 (fW .i64 (a1 + 1))), (10, .int .i64 (fW .i64 (a1 + 1))), (124, .int .i64 (fW .i64 (a1 + 1))), (123, .int .i64 a1), (120, .bool true), (0, .str a0), (1, .int .i64 a1), (4, .ptr 0 3 0), (7, .int .i64 0), (8, .int .i64 0), (120, .bool (decide (x0_2 = 63)))]
             refine oR 15 (p' := (atN 5 (ctl1 g46p44))) (eE := E27) (H' := (mkH [⟨[.int .i64 0, .str [], .int .i64 0], 0, false⟩])) (by kernel_rfl) ?_
             refine oJ (f := fun (z21 : Bool) => jn (fun (z22 : Int) => jn (fun (z23 : Bool) => if z23 then ((g60 k a0 z22).bind fun x13_2 => j20 (7, fW .i64 (x13_2 - a1))) else (j20 (0, 0))) (fun j23 => if (decide (z22 < (a0.length : Int))) then ((nthS a0 z22).bind fun x12_7 => (g64 k x12_7).bind fun x12_8 => if x12_8 then (j23 true) else ((nthS a0 z22).bind fun x12_12 => j23 (decide (x12_12 = 95)))) else (j23 false))) (fun j22 => if z21 then (j22 (fW .i64 (fW .i64 (a1 + 1) + 1))) else (j22 (fW .i64 (a1 + 1))))) g46p45 (fun (z21 : Bool) => [(0, .str a0), (1, .int .i64 a1), (4, .ptr 0 3 0), (7, .int .i64 0), (8, .int .i64 0), (10, .int .i64 (fW .i64 (a1 + 1))), (134, .bool z21)]) (fun (z21 : Bool) => (mkH [⟨[.int .i64 0, .str [], .int .i64 0], 0, false⟩])) (fun z21 => ?_) (fun j21 hj21 => ?_)
             ·refine oJ (f := fun (z22 : Int) => jn (fun (z23 : Bool) => if z23 then ((g60 k a0 z22).bind fun x13_2 => j20 (7, fW .i64 (x13_2 - a1))) else (j20 (0, 0))) (fun j23 => if (decide (z22 < (a0.length : Int))) then ((nthS a0 z22).bind fun x12_7 => (g64 k x12_7).bind fun x12_8 => if x12_8 then (j23 true) else ((nthS a0 z22).bind fun x12_12 => j23 (decide (x12_12 = 95)))) else (j23 false))) g46p47 (fun (z22 : Int) => [(0, .str a0), (1, .int .i64 a1), (4, .ptr 0 3 0), (7, .int .i64 0), (8, .int .i64 0), (10, .int .i64 z22)]) (fun (z22 : Int) => (mkH [⟨[.int .i64 0, .str [], .int .i64 0], 0, false⟩])) (fun z22 => ?_) (fun j22 hj22 => ?_)
              ·let E28 : Env := [(141, .bool (decide (z22 < (a0.length : Int)))), (140, .bool (decide (z22 < (a0.length : Int)))), (139, .int .i64 (a0.length : Int)), (138, .str a0), (137, .int .i64 z22), (0, .str a0), (1, .int .i64 a1), (4, .ptr 0 3 0), (7, .int .i64 0), (8, .int .i64 0), (10, .int .i64 z22)]
               refine oR 6 (p' := (atN 5 (ctl1 g46p47))) (eE := E28) (H' := (mkH [⟨[.int .i64 0, .str [], .int .i64 0], 0, false⟩])) (by kernel_rfl) ?_
               refine oJ (f := fun (z23 : Bool) => if z23 then ((g60 k a0 z22).bind fun x13_2 => j20 (7, fW .i64 (x13_2 - a1))) else (j20 (0, 0))) g46p48 (fun (z23 : Bool) => [(0, .str a0), (1, .int .i64 a1), (4, .ptr 0 3 0), (7, .int .i64 0), (8, .int .i64 0), (10, .int .i64 z22), (152, .bool z23)]) (fun (z23 : Bool) => (mkH [⟨[.int .i64 0, .str [], .int .i64 0], 0, false⟩])) (fun z23 => ?_) (fun j23 hj23 => ?_)
               ·refine oS 152 (b := z23) (by kernel_rfl) (fun hb => ?_) (fun hb => ?_)
                ·let E29 : Env := [(154, .int .i64 z22), (153, .str a0), (152, .bool true), (0, .str a0), (1, .int .i64 a1), (4, .ptr 0 3 0), (7, .int .i64 0), (8, .int .i64 0), (10, .int .i64 z22), (152, .bool z23)]
                 refine oR 4 (p' := (atN 2 (ctl1 g46p49))) (eE := E29) (H' := (mkH [⟨[.int .i64 0, .str [], .int .i64 0], 0, false⟩])) (by kernel_rfl) ?_
                 refine oC (fun (x13_2 : Int) => .int .i64 x13_2) (atN 3 (ctl1 g46p49)) (fun x13_2 => ((155, .int .i64 x13_2) :: E29)) (fi := 60) (args := [.str a0, .int .i64 z22]) (by kernel_rfl) (by kernel_rfl) (fun _ => by kernel_rfl) (fun r h => g60_ok k a0 z22 r h) (fun _ => by kernel_rfl) (fun x13_2 hx13_2 => ?_)
                 let E30 : Env := ((8, .int .i64 (fW .i64 (x13_2 - a1))) :: (7, .int .i64 7) :: (157, .int .i64 (fW .i64 (x13_2 - a1))) :: (156, .int .i64 a1) :: (155, .int .i64 x13_2) :: E29)
                 refine oR 7 (p' := g46p17) (eE := E30) (H' := (mkH [⟨[.int .i64 0, .str [], .int .i64 0], 0, false⟩])) (by kernel_rfl) ?_
                 refine oK [0, 1, 4, 7, 8] (eE := [(0, .str a0), (1, .int .i64 a1), (4, .ptr 0 3 0), (7, .int .i64 7), (8, .int .i64 (fW .i64 (x13_2 - a1)))]) (by kernel_rfl) ?_
                 exact hj20 (7, fW .i64 (x13_2 - a1))
                ·let E31 : Env := [(152, .bool false), (0, .str a0), (1, .int .i64 a1), (4, .ptr 0 3 0), (7, .int .i64 0), (8, .int .i64 0), (10, .int .i64 z22), (152, .bool z23)]
                 refine oR 4 (p' := g46p17) (eE := E31) (H' := (mkH [⟨[.int .i64 0, .str [], .int .i64 0], 0, false⟩])) (by kernel_rfl) ?_
                 refine oK [0, 1, 4, 7, 8] (eE := [(0, .str a0), (1, .int .i64 a1), (4, .ptr 0 3 0), (7, .int .i64 0), (8, .int .i64 0)]) (by kernel_rfl) ?_
                 exact hj20 (0, 0)
               ·refine oS 141 (b := decide (z22 < (a0.length : Int))) (by kernel_rfl) (fun hb => ?_) (fun hb => ?_)
                ·refine oR 2 (p' := (atN 7 (ctl1 g46p47))) (eE := ((143, .int .i64 z22) :: (142, .str a0) :: (141, .bool true) :: E28)) (H' := (mkH [⟨[.int .i64 0, .str [], .int .i64 0], 0, false⟩])) (by kernel_rfl) ?_
                 refine oH (fun (x12_7 : Int) => (.int .u8 x12_7, (mkH [⟨[.int .i64 0, .str [], .int .i64 0], 0, false⟩]))) (atN 8 (ctl1 g46p47)) (fun x12_7 => ((144, .int .u8 x12_7) :: (143, .int .i64 z22) :: (142, .str a0) :: (141, .bool true) :: E28)) (idxH (by kernel_rfl)) (fun _ => by kernel_rfl) (fun x12_7 hx12_7 => ?_)
                 refine oC (fun (x12_8 : Bool) => .bool x12_8) (atN 9 (ctl1 g46p47)) (fun x12_8 => ((145, .bool x12_8) :: (144, .int .u8 x12_7) :: (143, .int .i64 z22) :: (142, .str a0) :: (141, .bool true) :: E28)) (fi := 64) (args := [.int .u8 x12_7]) (by kernel_rfl) (by kernel_rfl) (fun _ => by kernel_rfl) (fun r h => g64_ok k x12_7 r h) (fun _ => by kernel_rfl) (fun x12_8 hx12_8 => ?_)
                 let E32 : Env := ((146, .bool x12_8) :: (145, .bool x12_8) :: (144, .int .u8 x12_7) :: (143, .int .i64 z22) :: (142, .str a0) :: (141, .bool true) :: E28)
                 refine oR 1 (p' := (atN 10 (ctl1 g46p47))) (eE := E32) (H' := (mkH [⟨[.int .i64 0, .str [], .int .i64 0], 0, false⟩])) (by kernel_rfl) ?_
                 refine oS 146 (b := x12_8) (by kernel_rfl) (fun hb => ?_) (fun hb => ?_)
                 ·let E33 : Env := ((152, .bool true) :: (151, .bool true) :: (150, .tuple []) :: (149, .tuple []) :: (148, .tuple []) :: (147, .tuple []) :: (146, .bool true) :: E32)
                  refine oR 7 (p' := g46p48) (eE := E33) (H' := (mkH [⟨[.int .i64 0, .str [], .int .i64 0], 0, false⟩])) (by kernel_rfl) ?_
                  refine oK [0, 1, 4, 7, 8, 10, 152] (eE := [(0, .str a0), (1, .int .i64 a1), (4, .ptr 0 3 0), (7, .int .i64 0), (8, .int .i64 0), (10, .int .i64 z22), (152, .bool true)]) (by kernel_rfl) ?_
                  exact hj23 true
                 ·refine oR 2 (p' := (atN 12 (ctl1 g46p47))) (eE := ((148, .int .i64 z22) :: (147, .str a0) :: (146, .bool false) :: E32)) (H' := (mkH [⟨[.int .i64 0, .str [], .int .i64 0], 0, false⟩])) (by kernel_rfl) ?_
                  refine oH (fun (x12_12 : Int) => (.int .u8 x12_12, (mkH [⟨[.int .i64 0, .str [], .int .i64 0], 0, false⟩]))) (atN 13 (ctl1 g46p47)) (fun x12_12 => ((149, .int .u8 x12_12) :: (148, .int .i64 z22) :: (147, .str a0) :: (146, .bool false) :: E32)) (idxH (by kernel_rfl)) (fun _ => by kernel_rfl) (fun x12_12 hx12_12 => ?_)
                  let E34 : Env := ((152, .bool (decide (x12_12 = 95))) :: (151, .bool (decide (x12_12 = 95))) :: (150, .bool (decide (x12_12 = 95))) :: (149, .int .u8 x12_12) :: (148, .int .i64 z22) :: (147, .str a0) :: (146, .bool false) :: E32)
                  refine oR 4 (p' := g46p48) (eE := E34) (H' := (mkH [⟨[.int .i64 0, .str [], .int .i64 0], 0, false⟩])) (by kernel_rfl) ?_
                  refine oK [0, 1, 4, 7, 8, 10, 152] (eE := [(0, .str a0), (1, .int .i64 a1), (4, .ptr 0 3 0), (7, .int .i64 0), (8, .int .i64 0), (10, .int .i64 z22), (152, .bool (decide (x12_12 = 95)))]) (by kernel_rfl) ?_
                  exact hj23 (decide (x12_12 = 95))
                ·let E35 : Env := ((152, .bool false) :: (151, .tuple []) :: (150, .tuple []) :: (149, .tuple []) :: (148, .tuple []) :: (147, .tuple []) :: (146, .tuple []) :: (145, .tuple []) :: (144, .tuple []) :: (143, .tuple []) :: (142, .tuple []) :: (141, .bool false) :: E28)
                 refine oR 12 (p' := g46p48) (eE := E35) (H' := (mkH [⟨[.int .i64 0, .str [], .int .i64 0], 0, false⟩])) (by kernel_rfl) ?_
                 refine oK [0, 1, 4, 7, 8, 10, 152] (eE := [(0, .str a0), (1, .int .i64 a1), (4, .ptr 0 3 0), (7, .int .i64 0), (8, .int .i64 0), (10, .int .i64 z22), (152, .bool false)]) (by kernel_rfl) ?_
                 exact hj23 false
              ·refine oS 134 (b := z21) (by kernel_rfl) (fun hb => ?_) (fun hb => ?_)
               ·let E36 : Env := [(10, .int .i64 (fW .i64 (fW .i64 (a1 + 1) + 1))), (136, .int .i64 (fW .i64 (fW .i64 (a1 + 1) + 1))), (135, .int .i64 (fW .i64 (a1 + 1))), (134, .bool true), (0, .str a0), (1, .int .i64 a1), (4, .ptr 0 3 0), (7, .int .i64 0), (8, .int .i64 0), (10, .int .i64 (fW .i64 (a1 + 1))), (134, .bool z21)]
                refine oR 7 (p' := g46p47) (eE := E36) (H' := (mkH [⟨[.int .i64 0, .str [], .int .i64 0], 0, false⟩])) (by kernel_rfl) ?_
                refine oK [0, 1, 4, 7, 8, 10] (eE := [(0, .str a0), (1, .int .i64 a1), (4, .ptr 0 3 0), (7, .int .i64 0), (8, .int .i64 0), (10, .int .i64 (fW .i64 (fW .i64 (a1 + 1) + 1)))]) (by kernel_rfl) ?_
                exact hj22 (fW .i64 (fW .i64 (a1 + 1) + 1))
               ·let E37 : Env := [(134, .bool false), (0, .str a0), (1, .int .i64 a1), (4, .ptr 0 3 0), (7, .int .i64 0), (8, .int .i64 0), (10, .int .i64 (fW .i64 (a1 + 1))), (134, .bool z21)]
                refine oR 3 (p' := g46p47) (eE := E37) (H' := (mkH [⟨[.int .i64 0, .str [], .int .i64 0], 0, false⟩])) (by kernel_rfl) ?_
                refine oK [0, 1, 4, 7, 8, 10] (eE := [(0, .str a0), (1, .int .i64 a1), (4, .ptr 0 3 0), (7, .int .i64 0), (8, .int .i64 0), (10, .int .i64 (fW .i64 (a1 + 1)))]) (by kernel_rfl) ?_
                exact hj22 (fW .i64 (a1 + 1))
             ·refine oS 129 (b := decide (fW .i64 (a1 + 1) < (a0.length : Int))) (by kernel_rfl) (fun hb => ?_) (fun hb => ?_)
              ·refine oR 2 (p' := (atN 7 (ctl1 g46p44))) (eE := ((131, .int .i64 (fW .i64 (a1 + 1))) :: (130, .str a0) :: (129, .bool true) :: E27)) (H' := (mkH [⟨[.int .i64 0, .str [], .int .i64 0], 0, false⟩])) (by kernel_rfl) ?_
               refine oH (fun (x10_7 : Int) => (.int .u8 x10_7, (mkH [⟨[.int .i64 0, .str [], .int .i64 0], 0, false⟩]))) (atN 8 (ctl1 g46p44)) (fun x10_7 => ((132, .int .u8 x10_7) :: (131, .int .i64 (fW .i64 (a1 + 1))) :: (130, .str a0) :: (129, .bool true) :: E27)) (idxH (by kernel_rfl)) (fun _ => by kernel_rfl) (fun x10_7 hx10_7 => ?_)
               let E38 : Env := ((134, .bool (decide (x10_7 = 63))) :: (133, .bool (decide (x10_7 = 63))) :: (132, .int .u8 x10_7) :: (131, .int .i64 (fW .i64 (a1 + 1))) :: (130, .str a0) :: (129, .bool true) :: E27)
               refine oR 3 (p' := g46p45) (eE := E38) (H' := (mkH [⟨[.int .i64 0, .str [], .int .i64 0], 0, false⟩])) (by kernel_rfl) ?_
               refine oK [0, 1, 4, 7, 8, 10, 134] (eE := [(0, .str a0), (1, .int .i64 a1), (4, .ptr 0 3 0), (7, .int .i64 0), (8, .int .i64 0), (10, .int .i64 (fW .i64 (a1 + 1))), (134, .bool (decide (x10_7 = 63)))]) (by kernel_rfl) ?_
               exact hj21 (decide (x10_7 = 63))
              ·let E39 : Env := ((134, .bool false) :: (133, .tuple []) :: (132, .tuple []) :: (131, .tuple []) :: (130, .tuple []) :: (129, .bool false) :: E27)
               refine oR 6 (p' := g46p45) (eE := E39) (H' := (mkH [⟨[.int .i64 0, .str [], .int .i64 0], 0, false⟩])) (by kernel_rfl) ?_
               refine oK [0, 1, 4, 7, 8, 10, 134] (eE := [(0, .str a0), (1, .int .i64 a1), (4, .ptr 0 3 0), (7, .int .i64 0), (8, .int .i64 0), (10, .int .i64 (fW .i64 (a1 + 1))), (134, .bool false)]) (by kernel_rfl) ?_
               exact hj21 false
            ·let E40 : Env := [(24, .int .i64 a1), (23, .str a0), (120, .bool false), (0, .str a0), (1, .int .i64 a1), (4, .ptr 0 3 0), (7, .int .i64 0), (8, .int .i64 0), (120, .bool (decide (x0_2 = 63)))]
             refine oR 4 (p' := (atN 2 (ctl1 g46p43))) (eE := E40) (H' := (mkH [⟨[.int .i64 0, .str [], .int .i64 0], 0, false⟩])) (by kernel_rfl) ?_
             refine oC (fun (x11_2 : Int) => .int .i64 x11_2) (atN 3 (ctl1 g46p43)) (fun x11_2 => ((25, .int .i64 x11_2) :: E40)) (fi := 65) (args := [.str a0, .int .i64 a1]) (by kernel_rfl) (by kernel_rfl) (fun _ => by kernel_rfl) (fun r h => g65_ok k a0 a1 r h) (fun _ => by kernel_rfl) (fun x11_2 hx11_2 => ?_)
             refine oR 5 (p' := g46p17) (eE := ((8, .int .i64 x11_2) :: (7, .int .i64 9) :: (25, .int .i64 x11_2) :: E40)) (H' := (mkH [⟨[.int .i64 0, .str [], .int .i64 0], 0, false⟩])) (by kernel_rfl) ?_
             refine oK [0, 1, 4, 7, 8] (eE := [(0, .str a0), (1, .int .i64 a1), (4, .ptr 0 3 0), (7, .int .i64 9), (8, .int .i64 x11_2)]) (by kernel_rfl) ?_
             exact hj20 (9, x11_2)
    ·refine oS 52 (b := decide (x0_2 = 46)) (by kernel_rfl) (fun hb => ?_) (fun hb => ?_)
     ·let E41 : Env := ((58, .bool (decide (fW .i64 (a1 + 1) = (a0.length : Int)))) :: (57, .bool (decide (fW .i64 (a1 + 1) = (a0.length : Int)))) :: (56, .int .i64 (a0.length : Int)) :: (55, .str a0) :: (54, .int .i64 (fW .i64 (a1 + 1))) :: (53, .int .i64 a1) :: (52, .bool true) :: E12)
      refine oR 6 (p' := (atN 9 (ctl1 g46p10))) (eE := E41) (H' := (mkH [⟨[.int .i64 0, .str [], .int .i64 0], 0, false⟩])) (by kernel_rfl) ?_
      refine oS 58 (b := decide (fW .i64 (a1 + 1) = (a0.length : Int))) (by kernel_rfl) (fun hb => ?_) (fun hb => ?_)
      ·let E42 : Env := ((49, .bool true) :: (74, .bool true) :: (73, .bool true) :: (72, .tuple []) :: (71, .tuple []) :: (70, .tuple []) :: (69, .tuple []) :: (68, .tuple []) :: (67, .tuple []) :: (66, .tuple []) :: (65, .bool true) :: (64, .bool true) :: (63, .tuple []) :: (62, .tuple []) :: (61, .tuple []) :: (60, .tuple []) :: (59, .tuple []) :: (58, .bool true) :: E41)
       refine oR 18 (p' := g46p12) (eE := E42) (H' := (mkH [⟨[.int .i64 0, .str [], .int .i64 0], 0, false⟩])) (by kernel_rfl) ?_
       refine oK [0, 1, 4, 6, 7, 8, 49] (eE := [(0, .str a0), (1, .int .i64 a1), (4, .ptr 0 3 0), (6, .int .u8 x0_2), (7, .int .i64 0), (8, .int .i64 0), (49, .bool true)]) (by kernel_rfl) ?_
       exact hj19 true
      ·refine oR 3 (p' := (atN 12 (ctl1 g46p10))) (eE := ((61, .int .i64 (fW .i64 (a1 + 1))) :: (60, .int .i64 a1) :: (59, .str a0) :: (58, .bool false) :: E41)) (H' := (mkH [⟨[.int .i64 0, .str [], .int .i64 0], 0, false⟩])) (by kernel_rfl) ?_
       refine oH (fun (x1_12 : Int) => (.int .u8 x1_12, (mkH [⟨[.int .i64 0, .str [], .int .i64 0], 0, false⟩]))) (atN 13 (ctl1 g46p10)) (fun x1_12 => ((62, .int .u8 x1_12) :: (61, .int .i64 (fW .i64 (a1 + 1))) :: (60, .int .i64 a1) :: (59, .str a0) :: (58, .bool false) :: E41)) (idxH (by kernel_rfl)) (fun _ => by kernel_rfl) (fun x1_12 hx1_12 => ?_)
       let E43 : Env := ((65, .bool (decide (x1_12 = 37))) :: (64, .bool (decide (x1_12 = 37))) :: (63, .bool (decide (x1_12 = 37))) :: (62, .int .u8 x1_12) :: (61, .int .i64 (fW .i64 (a1 + 1))) :: (60, .int .i64 a1) :: (59, .str a0) :: (58, .bool false) :: E41)
       refine oR 3 (p' := (atN 16 (ctl1 g46p10))) (eE := E43) (H' := (mkH [⟨[.int .i64 0, .str [], .int .i64 0], 0, false⟩])) (by kernel_rfl) ?_
       refine oS 65 (b := decide (x1_12 = 37)) (by kernel_rfl) (fun hb => ?_) (fun hb => ?_)
       ·let E44 : Env := ((49, .bool true) :: (74, .bool true) :: (73, .bool true) :: (72, .tuple []) :: (71, .tuple []) :: (70, .tuple []) :: (69, .tuple []) :: (68, .tuple []) :: (67, .tuple []) :: (66, .tuple []) :: (65, .bool true) :: E43)
        refine oR 11 (p' := g46p12) (eE := E44) (H' := (mkH [⟨[.int .i64 0, .str [], .int .i64 0], 0, false⟩])) (by kernel_rfl) ?_
        refine oK [0, 1, 4, 6, 7, 8, 49] (eE := [(0, .str a0), (1, .int .i64 a1), (4, .ptr 0 3 0), (6, .int .u8 x0_2), (7, .int .i64 0), (8, .int .i64 0), (49, .bool true)]) (by kernel_rfl) ?_
        exact hj19 true
       ·refine oR 3 (p' := (atN 19 (ctl1 g46p10))) (eE := ((68, .int .i64 (fW .i64 (a1 + 1))) :: (67, .int .i64 a1) :: (66, .str a0) :: (65, .bool false) :: E43)) (H' := (mkH [⟨[.int .i64 0, .str [], .int .i64 0], 0, false⟩])) (by kernel_rfl) ?_
        refine oC (fun (x1_19 : Int) => .int .i64 x1_19) (atN 20 (ctl1 g46p10)) (fun x1_19 => ((69, .int .i64 x1_19) :: (68, .int .i64 (fW .i64 (a1 + 1))) :: (67, .int .i64 a1) :: (66, .str a0) :: (65, .bool false) :: E43)) (fi := 45) (args := [.str a0, .int .i64 (fW .i64 (a1 + 1))]) (by kernel_rfl) (by kernel_rfl) (fun _ => by kernel_rfl) (fun r h => g45_ok k a0 (fW .i64 (a1 + 1)) r h) (fun _ => by kernel_rfl) (fun x1_19 hx1_19 => ?_)
        let E45 : Env := ((49, .bool (decide (fW .i64 (a1 + 1) < x1_19))) :: (74, .bool (decide (fW .i64 (a1 + 1) < x1_19))) :: (73, .bool (decide (fW .i64 (a1 + 1) < x1_19))) :: (72, .bool (decide (fW .i64 (a1 + 1) < x1_19))) :: (71, .int .i64 (fW .i64 (a1 + 1))) :: (70, .int .i64 a1) :: (69, .int .i64 x1_19) :: (68, .int .i64 (fW .i64 (a1 + 1))) :: (67, .int .i64 a1) :: (66, .str a0) :: (65, .bool false) :: E43)
        refine oR 7 (p' := g46p12) (eE := E45) (H' := (mkH [⟨[.int .i64 0, .str [], .int .i64 0], 0, false⟩])) (by kernel_rfl) ?_
        refine oK [0, 1, 4, 6, 7, 8, 49] (eE := [(0, .str a0), (1, .int .i64 a1), (4, .ptr 0 3 0), (6, .int .u8 x0_2), (7, .int .i64 0), (8, .int .i64 0), (49, .bool (decide (fW .i64 (a1 + 1) < x1_19)))]) (by kernel_rfl) ?_
        exact hj19 (decide (fW .i64 (a1 + 1) < x1_19))
     ·let E46 : Env := ((49, .bool false) :: (74, .bool false) :: (73, .tuple []) :: (72, .tuple []) :: (71, .tuple []) :: (70, .tuple []) :: (69, .tuple []) :: (68, .tuple []) :: (67, .tuple []) :: (66, .tuple []) :: (65, .tuple []) :: (64, .tuple []) :: (63, .tuple []) :: (62, .tuple []) :: (61, .tuple []) :: (60, .tuple []) :: (59, .tuple []) :: (58, .tuple []) :: (57, .tuple []) :: (56, .tuple []) :: (55, .tuple []) :: (54, .tuple []) :: (53, .tuple []) :: (52, .bool false) :: E12)
      refine oR 24 (p' := g46p12) (eE := E46) (H' := (mkH [⟨[.int .i64 0, .str [], .int .i64 0], 0, false⟩])) (by kernel_rfl) ?_
      refine oK [0, 1, 4, 6, 7, 8, 49] (eE := [(0, .str a0), (1, .int .i64 a1), (4, .ptr 0 3 0), (6, .int .u8 x0_2), (7, .int .i64 0), (8, .int .i64 0), (49, .bool false)]) (by kernel_rfl) ?_
      exact hj19 false
 ·refine oS 13 (b := decide (a1 < 0)) (by kernel_rfl) (fun hb => ?_) (fun hb => ?_)
  ·let E47 : Env := ((18, .bool true) :: (17, .tuple []) :: (16, .tuple []) :: (15, .tuple []) :: (14, .tuple []) :: (13, .bool true) :: E1)
   refine oR 6 (p' := g46p2) (eE := E47) (H' := (mkH [⟨[.int .i64 0, .str [], .int .i64 0], 0, false⟩])) (by kernel_rfl) ?_
   refine oK [0, 1, 4, 18] (eE := [(0, .str a0), (1, .int .i64 a1), (4, .ptr 0 3 0), (18, .bool true)]) (by kernel_rfl) ?_
   exact hj17 true
  ·let E48 : Env := ((18, .bool (decide ((a0.length : Int) ≤ a1))) :: (17, .bool (decide ((a0.length : Int) ≤ a1))) :: (16, .int .i64 (a0.length : Int)) :: (15, .str a0) :: (14, .int .i64 a1) :: (13, .bool false) :: E1)
   refine oR 6 (p' := g46p2) (eE := E48) (H' := (mkH [⟨[.int .i64 0, .str [], .int .i64 0], 0, false⟩])) (by kernel_rfl) ?_
   refine oK [0, 1, 4, 18] (eE := [(0, .str a0), (1, .int .i64 a1), (4, .ptr 0 3 0), (18, .bool (decide ((a0.length : Int) ≤ a1)))]) (by kernel_rfl) ?_
   exact hj17 (decide ((a0.length : Int) ≤ a1))
end
end Go.Proofs.Ytbmijiibfaacmaa.Am
set_option maxRecDepth 100000
set_option linter.unusedVariables false
namespace Go.Proofs.Ytbmijiibfaacmaa.Am
noncomputable section
open Go
def X28 : Fx ((List S46) × Int) := ⟨Try.prog, cx, Try.f28, fun r => .tuple [.vec (r.1).length 3 ((r.1).flatMap e47), .int .i64 r.2], 0, fun _ => H0, cxTi, cxOrd⟩
def g28p0 : Pt := nav [0] (bodyAt Try.f28)
def g28p1 : Pt := nav [0, 0, 0, 0] g28p0
def g28p2 : Pt := nav [0, 0] g28p1
def g28p4 : Pt := nav [2, 0, 0, 0] g28p2
def g28p6 : Pt := nav [0, 0] g28p4
def g28p8 : Pt := nav [2, 0, 0] g28p6
def g28p9 : Pt := nav [0, 0, 0, 0] g28p8
def g28p10 : Pt := nav [0, 0, 0, 0] g28p9
def g28p11 : Pt := nav [0, 0, 0] g28p10
def g28p12 : Pt := nav [0, 0] g28p11
def g28p13 : Pt := nav [1, 0, 0, 0] g28p12
def g28p15 : Pt := nav [0, 0, 0, 0] g28p13
def g28p16 : Pt := nav [0, 0] g28p15
def g28p18 : Pt := nav [2, 0, 0] g28p16
def g28p19 : Pt := nav [0, 0] g28p18
def g28_l5 (k : Nat)  (a0 : (List Nat)) (n : Nat) : Int → (List S46) → Option ((List S46) × Int) :=
 Nat.rec (motive := fun _ => Int → (List S46) → Option ((List S46) × Int)) (fun _ _ => none) (fun _ ih => fun (y5_0 : Int) (y5_1 : (List S46)) => if (decide (y5_0 < (a0.length : Int))) then ((g46 k a0 y5_0).bind fun x2_2 => if (!decide (x2_2.2 = 0)) then (some (([] : List S46), x2_2.2)) else ((appS 32 y5_1 ([(⟨x2_2.1.f0, x2_2.1.f1, x2_2.1.f2⟩ : S46)] : List S46)).bind fun x3_3 => (g45 k a0 (fW .i64 (y5_0 + (x2_2.1.f1.length : Int)))).bind fun x4_6 => ih x4_6 x3_3)) else (some (y5_1, (0 : Int)))) n
theorem g28_l5_s (k : Nat)  (a0 : (List Nat)) (n : Nat) (y5_0 : Int) (y5_1 : (List S46)) : g28_l5 k a0 (n + 1) y5_0 y5_1 = (if (decide (y5_0 < (a0.length : Int))) then ((g46 k a0 y5_0).bind fun x2_2 => if (!decide (x2_2.2 = 0)) then (some (([] : List S46), x2_2.2)) else ((appS 32 y5_1 ([(⟨x2_2.1.f0, x2_2.1.f1, x2_2.1.f2⟩ : S46)] : List S46)).bind fun x3_3 => (g45 k a0 (fW .i64 (y5_0 + (x2_2.1.f1.length : Int)))).bind fun x4_6 => (g28_l5 k a0 n) x4_6 x3_3)) else (some (y5_1, (0 : Int)))) := rfl
theorem g28_l5_ok (k : Nat)  (a0 : (List Nat))  : ∀ (n : Nat) (y5_0 : Int) (y5_1 : (List S46)), Ok X28 g28p10 [(0, .str a0), (4, .own 0 (y5_1).length 3), (5, .int .i64 y5_0)] (mkH [⟨(y5_1).flatMap e47, 0, false⟩]) (g28_l5 k a0 n y5_0 y5_1)
 | 0, _, _ => ok_none
 | n + 1, y5_0, y5_1 => by
  have ih := g28_l5_ok k a0 n
  rw [g28_l5_s]
  refine ok_ent (p' := nav [0] g28p10) (by kernel_rfl) ?_
  let E4 : Env := [(19, .bool (decide (y5_0 < (a0.length : Int)))), (18, .int .i64 (a0.length : Int)), (17, .str a0), (16, .int .i64 y5_0), (0, .str a0), (4, .own 0 (y5_1).length 3), (5, .int .i64 y5_0)]
  refine oR 8 (p' := g28p12) (eE := E4) (H' := (mkH [⟨(y5_1).flatMap e47, 0, false⟩])) (by kernel_rfl) ?_
  refine oS 19 (b := decide (y5_0 < (a0.length : Int))) (by kernel_rfl) (fun hb => ?_) (fun hb => ?_)
  ·refine oR 7 (p' := (atN 2 (ctl1 g28p13))) (eE := ((22, .int .i64 y5_0) :: (21, .str a0) :: (19, .bool true) :: E4)) (H' := (mkH [⟨(y5_1).flatMap e47, 0, false⟩])) (by kernel_rfl) ?_
   refine oC (fun (x2_2 : (S46 × Int)) => .tuple [.agg [.int .i64 x2_2.1.f0, .str x2_2.1.f1, .int .i64 x2_2.1.f2], .int .i64 x2_2.2]) (atN 3 (ctl1 g28p13)) (fun x2_2 => ((23, .tuple [.agg [.int .i64 x2_2.1.f0, .str x2_2.1.f1, .int .i64 x2_2.1.f2], .int .i64 x2_2.2]) :: (22, .int .i64 y5_0) :: (21, .str a0) :: (19, .bool true) :: E4)) (fi := 46) (args := [.str a0, .int .i64 y5_0]) (by kernel_rfl) (by kernel_rfl) (fun _ => by kernel_rfl) (fun r h => g46_ok k a0 y5_0 r h) (fun _ => by kernel_rfl) (fun x2_2 hx2_2 => ?_)
   let E5 : Env := ((7, .int .i64 x2_2.2) :: (6, .ptr 1 3 0) :: (25, .int .i64 x2_2.2) :: (24, .agg [.int .i64 x2_2.1.f0, .str x2_2.1.f1, .int .i64 x2_2.1.f2]) :: (20, .tuple [.agg [.int .i64 x2_2.1.f0, .str x2_2.1.f1, .int .i64 x2_2.1.f2], .int .i64 x2_2.2]) :: (23, .tuple [.agg [.int .i64 x2_2.1.f0, .str x2_2.1.f1, .int .i64 x2_2.1.f2], .int .i64 x2_2.2]) :: (22, .int .i64 y5_0) :: (21, .str a0) :: (19, .bool true) :: E4)
   refine oR 9 (p' := g28p15) (eE := E5) (H' := (mkH [⟨(y5_1).flatMap e47, 0, false⟩, ⟨[.int .i64 x2_2.1.f0, .str x2_2.1.f1, .int .i64 x2_2.1.f2], 3, false⟩])) (by kernel_rfl) ?_
   refine oK [0, 4, 5, 6, 7] (eE := [(0, .str a0), (4, .own 0 (y5_1).length 3), (5, .int .i64 y5_0), (6, .ptr 1 3 0), (7, .int .i64 x2_2.2)]) (by kernel_rfl) ?_
   let E6 : Env := [(27, .bool (!decide (x2_2.2 = 0))), (26, .int .i64 x2_2.2), (0, .str a0), (4, .own 0 (y5_1).length 3), (5, .int .i64 y5_0), (6, .ptr 1 3 0), (7, .int .i64 x2_2.2)]
   refine oR 4 (p' := g28p16) (eE := E6) (H' := (mkH [⟨(y5_1).flatMap e47, 0, false⟩, ⟨[.int .i64 x2_2.1.f0, .str x2_2.1.f1, .int .i64 x2_2.1.f2], 3, false⟩])) (by kernel_rfl) ?_
   refine oS 27 (b := !decide (x2_2.2 = 0)) (by kernel_rfl) (fun hb => ?_) (fun hb => ?_)
   ·refine oR 8 (p' := .fin) (eE := ((3, .int .i64 x2_2.2) :: (2, .nils) :: (28, .int .i64 x2_2.2) :: (27, .bool true) :: E6)) (H' := (mkH [⟨(y5_1).flatMap e47, 0, false⟩, ⟨[.int .i64 x2_2.1.f0, .str x2_2.1.f1, .int .i64 x2_2.1.f2], 3, false⟩])) (by kernel_rfl) ?_
    exact oT (r := (([] : List S46), x2_2.2)) (xs := [.nils, .int .i64 x2_2.2]) (v := .tuple [.vec 0 3 [], .int .i64 x2_2.2]) (by kernel_rfl) (by kernel_rfl) (by kernel_rfl) (.tuple (.nil (.pures (by kernel_rfl))) (.pures (by kernel_rfl))) (by kernel_rfl)
   ·refine oR 7 (p' := (atN 3 (ctl1 g28p18))) (eE := ((31, .slice 2 3 0 1 3) :: (30, .agg [.int .i64 x2_2.1.f0, .str x2_2.1.f1, .int .i64 x2_2.1.f2]) :: (29, .own 0 (y5_1).length 3) :: (27, .bool false) :: E6)) (H' := (mkH [⟨(y5_1).flatMap e47, 0, false⟩, ⟨[.int .i64 x2_2.1.f0, .str x2_2.1.f1, .int .i64 x2_2.1.f2], 3, false⟩, ⟨[.int .i64 x2_2.1.f0, .str x2_2.1.f1, .int .i64 x2_2.1.f2], 0, false⟩])) (by kernel_rfl) ?_
    refine oH (fun (x3_3 : (List S46)) => (.own 0 (x3_3).length 3, (mkH [⟨(x3_3).flatMap e47, 0, false⟩, ⟨[.int .i64 x2_2.1.f0, .str x2_2.1.f1, .int .i64 x2_2.1.f2], 3, false⟩, ⟨[.int .i64 x2_2.1.f0, .str x2_2.1.f1, .int .i64 x2_2.1.f2], 0, false⟩]))) (atN 4 (ctl1 g28p18)) (fun x3_3 => ((32, .own 0 (x3_3).length 3) :: (31, .slice 2 3 0 1 3) :: (30, .agg [.int .i64 x2_2.1.f0, .str x2_2.1.f1, .int .i64 x2_2.1.f2]) :: (29, .own 0 (y5_1).length 3) :: (27, .bool false) :: E6)) (appH (sz := 3) e47_len rfl e47_one [⟨(y5_1).flatMap e47, 0, false⟩, ⟨[.int .i64 x2_2.1.f0, .str x2_2.1.f1, .int .i64 x2_2.1.f2], 3, false⟩, ⟨[.int .i64 x2_2.1.f0, .str x2_2.1.f1, .int .i64 x2_2.1.f2], 0, false⟩] 0 32 y5_1 ([(⟨x2_2.1.f0, x2_2.1.f1, x2_2.1.f2⟩ : S46)] : List S46) rfl rfl (by kernel_rfl)) (fun _ => by kernel_rfl) (fun x3_3 hx3_3 => ?_)
    let E7 : Env := ((4, .own 0 (x3_3).length 3) :: (32, .own 0 (x3_3).length 3) :: (31, .slice 2 3 0 1 3) :: (30, .agg [.int .i64 x2_2.1.f0, .str x2_2.1.f1, .int .i64 x2_2.1.f2]) :: (29, .own 0 (y5_1).length 3) :: (27, .bool false) :: E6)
    refine oR 2 (p' := g28p19) (eE := E7) (H' := (mkH [⟨(x3_3).flatMap e47, 0, false⟩, ⟨[.int .i64 x2_2.1.f0, .str x2_2.1.f1, .int .i64 x2_2.1.f2], 3, false⟩, ⟨[.int .i64 x2_2.1.f0, .str x2_2.1.f1, .int .i64 x2_2.1.f2], 0, false⟩])) (by kernel_rfl) ?_
    refine oK [0, 4, 5, 6] (eE := [(0, .str a0), (4, .own 0 (x3_3).length 3), (5, .int .i64 y5_0), (6, .ptr 1 3 0)]) (by kernel_rfl) ?_
    let E8 : Env := [(38, .int .i64 (fW .i64 (y5_0 + (x2_2.1.f1.length : Int)))), (37, .int .i64 (x2_2.1.f1.length : Int)), (36, .str x2_2.1.f1), (35, .ptr 1 3 1), (34, .int .i64 y5_0), (33, .str a0), (0, .str a0), (4, .own 0 (x3_3).length 3), (5, .int .i64 y5_0), (6, .ptr 1 3 0)]
    refine oR 7 (p' := (atN 6 (ctl1 g28p19))) (eE := E8) (H' := (mkH [⟨(x3_3).flatMap e47, 0, false⟩, ⟨[.int .i64 x2_2.1.f0, .str x2_2.1.f1, .int .i64 x2_2.1.f2], 3, false⟩, ⟨[.int .i64 x2_2.1.f0, .str x2_2.1.f1, .int .i64 x2_2.1.f2], 0, false⟩])) (by kernel_rfl) ?_
    refine oC (fun (x4_6 : Int) => .int .i64 x4_6) (atN 7 (ctl1 g28p19)) (fun x4_6 => ((39, .int .i64 x4_6) :: E8)) (fi := 45) (args := [.str a0, .int .i64 (fW .i64 (y5_0 + (x2_2.1.f1.length : Int)))]) (by kernel_rfl) (by kernel_rfl) (fun _ => by kernel_rfl) (fun r h => g45_ok k a0 (fW .i64 (y5_0 + (x2_2.1.f1.length : Int))) r h) (fun _ => by kernel_rfl) (fun x4_6 hx4_6 => ?_)
    refine oR 2 (p' := g28p10) (eE := ((5, .int .i64 x4_6) :: (39, .int .i64 x4_6) :: E8)) (H' := (mkH [⟨(x3_3).flatMap e47, 0, false⟩, ⟨[.int .i64 x2_2.1.f0, .str x2_2.1.f1, .int .i64 x2_2.1.f2], 3, false⟩, ⟨[.int .i64 x2_2.1.f0, .str x2_2.1.f1, .int .i64 x2_2.1.f2], 0, false⟩])) (by kernel_rfl) ?_
    refine oK [0, 4, 5] (eE := [(0, .str a0), (4, .own 0 (x3_3).length 3), (5, .int .i64 x4_6)]) (by kernel_rfl) ?_
    refine ok_cut [⟨(x3_3).flatMap e47, 0, false⟩] [⟨[.int .i64 x2_2.1.f0, .str x2_2.1.f1, .int .i64 x2_2.1.f2], 3, false⟩, ⟨[.int .i64 x2_2.1.f0, .str x2_2.1.f1, .int .i64 x2_2.1.f2], 0, false⟩] (by kernel_rfl) rfl (by kernel_rfl) ⟨(purs_belows _ (purs_flatMap e47_pur _)), trivial⟩ ?_
    exact ih x4_6 x3_3
  ·refine oR 9 (p' := .fin) (eE := ((3, .int .i64 0) :: (2, .own 0 (y5_1).length 3) :: (40, .own 0 (y5_1).length 3) :: (19, .bool false) :: E4)) (H' := (mkH [⟨(y5_1).flatMap e47, 0, false⟩])) (by kernel_rfl) ?_
   exact oT (r := (y5_1, (0 : Int))) (xs := [.own 0 (y5_1).length 3, .int .i64 0]) (v := .tuple [.vec (y5_1).length 3 ((y5_1).flatMap e47), .int .i64 0]) (by kernel_rfl) (by kernel_rfl) (by kernel_rfl) (.tuple (fz_own e47_len e47_pur rfl rfl (.pures (by kernel_rfl))) (.pures (by kernel_rfl))) (by kernel_rfl)
def g28 (k : Nat) (a0 : (List Nat)) : Option ((List S46) × Int) :=
 if (decide (65536 < (a0.length : Int))) then (some (([] : List S46), (3 : Int))) else ((g44 k a0).bind fun x0_1 => if (!x0_1) then (some (([] : List S46), (2 : Int))) else ((g45 k a0 (0 : Int)).bind fun x1_1 => g28_l5 k a0 k x1_1 ([] : List S46)))
theorem g28_ok (k : Nat) (a0 : (List Nat)) (r : ((List S46) × Int)) (h : g28 k a0 = some r) : PureOk Try.prog 28 [.str a0] (.tuple [.vec (r.1).length 3 ((r.1).flatMap e47), .int .i64 r.2]) := by
 refine pure_of X28 (fun _ => rfl) Try.func28 (by decide +kernel) (by kernel_rfl) (t := g28 k a0) ?_ h
 unfold g28
 refine oE (eE := [(0, .str a0)]) (by kernel_rfl) ?_
 let E1 : Env := [(10, .bool (decide (65536 < (a0.length : Int)))), (9, .int .i64 (a0.length : Int)), (8, .str a0), (3, .int .i64 0), (2, .nils), (0, .str a0)]
 refine oR 12 (p' := g28p2) (eE := E1) (H' := (mkH [])) (by kernel_rfl) ?_
 refine oS 10 (b := decide (65536 < (a0.length : Int))) (by kernel_rfl) (fun hb => ?_) (fun hb => ?_)
 ·refine oR 7 (p' := .fin) (eE := ((3, .int .i64 3) :: (2, .nils) :: (10, .bool true) :: E1)) (H' := (mkH [])) (by kernel_rfl) ?_
  exact oT (r := (([] : List S46), (3 : Int))) (xs := [.nils, .int .i64 3]) (v := .tuple [.vec 0 3 [], .int .i64 3]) (by kernel_rfl) (by kernel_rfl) (by kernel_rfl) (.tuple (.nil (.pures (by kernel_rfl))) (.pures (by kernel_rfl))) (by kernel_rfl)
 ·refine oR 6 (p' := (atN 1 (ctl1 g28p4))) (eE := ((11, .str a0) :: (10, .bool false) :: E1)) (H' := (mkH [])) (by kernel_rfl) ?_
  refine oC (fun (x0_1 : Bool) => .bool x0_1) (atN 2 (ctl1 g28p4)) (fun x0_1 => ((12, .bool x0_1) :: (11, .str a0) :: (10, .bool false) :: E1)) (fi := 44) (args := [.str a0]) (by kernel_rfl) (by kernel_rfl) (fun _ => by kernel_rfl) (fun r h => g44_ok k a0 r h) (fun _ => by kernel_rfl) (fun x0_1 hx0_1 => ?_)
  refine oR 2 (p' := g28p6) (eE := ((13, .bool (!x0_1)) :: (12, .bool x0_1) :: (11, .str a0) :: (10, .bool false) :: E1)) (H' := (mkH [])) (by kernel_rfl) ?_
  refine oK [0, 13] (eE := [(0, .str a0), (13, .bool (!x0_1))]) (by kernel_rfl) ?_
  refine oS 13 (b := !x0_1) (by kernel_rfl) (fun hb => ?_) (fun hb => ?_)
  ·let E2 : Env := [(3, .int .i64 2), (2, .nils), (13, .bool true), (0, .str a0), (13, .bool (!x0_1))]
   refine oR 7 (p' := .fin) (eE := E2) (H' := (mkH [])) (by kernel_rfl) ?_
   exact oT (r := (([] : List S46), (2 : Int))) (xs := [.nils, .int .i64 2]) (v := .tuple [.vec 0 3 [], .int .i64 2]) (by kernel_rfl) (by kernel_rfl) (by kernel_rfl) (.tuple (.nil (.pures (by kernel_rfl))) (.pures (by kernel_rfl))) (by kernel_rfl)
  ·refine oR 5 (p' := (atN 1 (ctl1 g28p8))) (eE := [(4, .nils), (13, .bool false), (0, .str a0), (13, .bool (!x0_1))]) (H' := (mkH [])) (by kernel_rfl) ?_
   refine ok_own [] 4 3 rfl (by kernel_rfl) ?_
   refine oE (eE := [(4, .own 0 (([] : List S46)).length 3), (4, .nils), (13, .bool false), (0, .str a0), (13, .bool (!x0_1))]) (by kernel_rfl) ?_
   refine ok_heap (H' := (mkH [⟨(([] : List S46)).flatMap e47, 0, false⟩])) (by kernel_rfl) ?_
   let E3 : Env := [(14, .str a0), (4, .own 0 (([] : List S46)).length 3), (4, .nils), (13, .bool false), (0, .str a0), (13, .bool (!x0_1))]
   refine oR 5 (p' := (atN 1 (ctl1 g28p9))) (eE := E3) (H' := (mkH [⟨(([] : List S46)).flatMap e47, 0, false⟩])) (by kernel_rfl) ?_
   refine oC (fun (x1_1 : Int) => .int .i64 x1_1) (atN 2 (ctl1 g28p9)) (fun x1_1 => ((15, .int .i64 x1_1) :: E3)) (fi := 45) (args := [.str a0, .int .i64 0]) (by kernel_rfl) (by kernel_rfl) (fun _ => by kernel_rfl) (fun r h => g45_ok k a0 (0 : Int) r h) (fun _ => by kernel_rfl) (fun x1_1 hx1_1 => ?_)
   refine oR 4 (p' := g28p10) (eE := ((5, .int .i64 x1_1) :: (15, .int .i64 x1_1) :: E3)) (H' := (mkH [⟨(([] : List S46)).flatMap e47, 0, false⟩])) (by kernel_rfl) ?_
   refine oK [0, 4, 5] (eE := [(0, .str a0), (4, .own 0 (([] : List S46)).length 3), (5, .int .i64 x1_1)]) (by kernel_rfl) ?_
   exact (g28_l5_ok k a0 k) x1_1 ([] : List S46)
end
end Go.Proofs.Ytbmijiibfaacmaa.Am
set_option maxRecDepth 100000
set_option linter.unusedVariables false
set_option linter.unusedSimpArgs false
namespace Go.Proofs.Ytbmijiibfaacmaa.Am
open Go
theorem rblank_l (k : Nat) {s : List Nat} (hs : By s) (hl : Sz s) : ∀ (f i : Nat), s.length < i + f → i ≤ s.length → g45_l1 k s f (i : Int) = some ((i + skipN (s.drop i) : Nat) : Int)
 | 0, i, h, h2 => by omega
 | f + 1, i, h, h2 => by
  have hl' := hl
  unfold Sz at hl
  rw [g45_l1_s]
  rcases Nat.lt_or_ge i s.length with hi | hi
  ·obtain ⟨c, r, hc, hr, hm, hrl⟩ := dcons hi
   have ih := rblank_l k hs hl' f (i + 1) (by omega) (by omega)
   rw [hr] at ih
   have nc := nthX (x := (i : Int)) rfl hc
   refine (jS (v := (blkN c, (i : Int))) (fun j => ?_)).trans ?_
   ·refine iT (by first | (simp (disch := omega) only [↓reduceIte, ↓jn, gsL]; done) | rfl) ?_
    refine bS (by (try simp (disch := omega) only [fwI]); exact nc) ?_
    unfold blkN
    by_cases h1 : c = 32
    ·refine iT (dT (by omega)) ?_
     rw [decide_eq_true h1]; rfl
    refine iF (dF (by omega)) ?_
    refine bS (by (try simp (disch := omega) only [fwI]); exact nc) ?_
    rw [decide_eq_false h1]
    by_cases h2 : c = 9
    ·refine iT (dT (by omega)) ?_
     rw [decide_eq_true h2]; rfl
    refine iF (dF (by omega)) ?_
    refine bS (by (try simp (disch := omega) only [fwI]); exact nc) ?_
    rw [decide_eq_false h2]
    by_cases h3 : c = 10
    ·refine iT (dT (by omega)) ?_
     rw [decide_eq_true h3]; rfl
    refine iF (dF (by omega)) ?_
    refine bS (by (try simp (disch := omega) only [fwI]); exact nc) ?_
    rw [decide_eq_false h3]
    have : decide ((c : Int) = 13) = decide (c = 13) := by rw [Bool.eq_iff_iff]; simp; omega
    rw [this]; rfl
   ·rw [hc]
    simp only [skipN]
    cases blkN c with
    | true =>
     refine iT rfl ?_
     rw [fw_s (by omega)]
     refine ih.trans (sn ?_)
     simp only [if_true]; omega
    | false =>
     refine iF rfl ?_
     simp only [Bool.false_eq_true, if_false]; rfl
  ·refine (jS (v := (false, (i : Int))) (fun j => ?_)).trans ?_
   ·simp (disch := omega) only [↓reduceIte, ↓jn, gsL]
   ·refine iF rfl ?_
    rw [dnil hi]; rfl
theorem rblank_at {k : Nat} {s : List Nat} (hk : s.length < k) (hs : By s) (hl : Sz s) {a : Nat} (ha : a ≤ s.length) : g45 k s (a : Int) = some ((a + skipN (s.drop a) : Nat) : Int) := rblank_l k hs hl k a (by omega) ha
theorem rinner_l (k : Nat) {s : List Nat} (hs : By s) (hl : Sz s) : ∀ (f i : Nat), s.length < i + f → i ≤ s.length → g60_l1 k s f (i : Int) = some ((i + innN (s.drop i) : Nat) : Int)
 | 0, i, h, h2 => by omega
 | f + 1, i, h, h2 => by
  have hl' := hl
  unfold Sz at hl
  rw [g60_l1_s]
  rcases Nat.lt_or_ge i s.length with hi | hi
  ·obtain ⟨c, r, hc, hr, hm, hrl⟩ := dcons hi
   have ih := rinner_l k hs hl' f (i + 1) (by omega) (by omega)
   rw [hr] at ih
   have nc := nthX (x := (i : Int)) rfl hc
   have bc := inner_at74 k (hs c hm)
   refine (jS (v := (inrN c, (i : Int))) (fun j => ?_)).trans ?_
   ·refine iT (by first | (simp (disch := omega) only [↓reduceIte, ↓jn, gsL]; done) | rfl) ?_
    refine bS (by (try simp (disch := omega) only [fwI]); exact nc) ?_
    refine bS (by (try simp (disch := omega) only [fwI]); exact bc) ?_
    rfl
   ·rw [hc]
    simp only [innN]
    cases inrN c with
    | true =>
     refine iT rfl ?_
     rw [fw_s (by omega)]
     refine ih.trans (sn ?_)
     simp only [if_true]; omega
    | false =>
     refine iF rfl ?_
     simp only [Bool.false_eq_true, if_false]; rfl
  ·refine (jS (v := (false, (i : Int))) (fun j => ?_)).trans ?_
   ·simp (disch := omega) only [↓reduceIte, ↓jn, gsL]
   ·refine iF rfl ?_
    rw [dnil hi]; rfl
theorem rinner_at {k : Nat} {s : List Nat} (hk : s.length < k) (hs : By s) (hl : Sz s) {a : Nat} (ha : a ≤ s.length) : g60 k s (a : Int) = some ((a + innN (s.drop a) : Nat) : Int) := rinner_l k hs hl k a (by omega) ha
theorem rquoted_l {k : Nat} (hk : 6 ≤ k) {s : List Nat} (hs : By s) (hl : Sz s) {a q : Nat} {t : List Nat} (hq : s.drop a = q :: t) (hq2 : q = 39 ∨ q = 34) : ∀ (d f i : Nat), s.length ≤ i + d → d < f → i ≤ s.length → a ≤ i → g62_l3 k s (a : Int) f (i : Int) = some ((bmp (i - a) (quoN q d (s.drop i)) : Nat) : Int) := by
 have na : nthS s (a : Int) = some (q : Int) := nthX rfl hq
 have hl' := hl
 unfold Sz at hl
 intro d
 induction d with
 | zero =>
  intro f i h1 hf h2 hai
  obtain ⟨f, rfl⟩ : ∃ f', f = f' + 1 := ⟨f - 1, by omega⟩
  rw [dnil (by omega : s.length ≤ i), g62_l3_s]
  refine (jS (v := (false, (i : Int))) (fun j => ?_)).trans ?_
  ·simp (disch := omega) only [↓reduceIte, ↓jn, gsL]
  ·refine iF rfl ?_
   refine iT (by first | (simp (disch := omega) only [↓reduceIte, ↓jn, gsL]; done) | rfl) ?_
   rfl
 | succ d ih =>
  intro f i h1 hf h2 hai
  obtain ⟨f, rfl⟩ : ∃ f', f = f' + 1 := ⟨f - 1, by omega⟩
  rw [g62_l3_s]
  rcases Nat.lt_or_ge i s.length with hi | hi
  ·obtain ⟨c, r, hc, hr, hm, hrl⟩ := dcons hi
   have nc := nthX (x := (i : Int)) rfl hc
   rw [hc]
   simp only [quoN]
   by_cases hcq : c = q
   ·subst hcq
    rw [if_pos rfl]
    refine (jS (v := (false, (i : Int))) (fun j => ?_)).trans ?_
    ·refine iT (by first | (simp (disch := omega) only [↓reduceIte, ↓jn, gsL]; done) | rfl) ?_
     refine bS (by (try simp (disch := omega) only [fwI]); exact nc) ?_
     refine bS (by (try simp (disch := omega) only [fwI]); exact na) ?_
     rw [dT rfl]; rfl
    ·refine iF rfl ?_
     refine iF (by first | (simp (disch := omega) only [↓reduceIte, ↓jn, gsL]; done) | rfl) ?_
     rw [fw_s (by omega), fwI (by omega) (by omega)]
     unfold bmp
     rw [if_neg (by decide)]
     exact congrArg some (by omega)
   ·rw [if_neg hcq]
    refine (jS (v := (true, (i : Int))) (fun j => ?_)).trans ?_
    ·refine iT (by first | (simp (disch := omega) only [↓reduceIte, ↓jn, gsL]; done) | rfl) ?_
     refine bS (by (try simp (disch := omega) only [fwI]); exact nc) ?_
     refine bS (by (try simp (disch := omega) only [fwI]); exact na) ?_
     rw [dF (by omega)]; rfl
    ·refine iT rfl ?_
     refine bS (by (try simp (disch := omega) only [fwI]); exact nc) ?_
     have step : ∀ (p : Nat) (u : List Nat), p ≤ s.length → s.drop p = u → i ≤ p → p ≤ i + 1 →
      (g56 k s (p : Int)).bind (fun x2_2 => jn (fun (z6 : Bool) => if z6 then (some (0 : Int)) else (g62_l3 k s (a : Int) f (fW .i64 ((p : Int) + x2_2.2)))) (fun j6 => if (decide (x2_2.1 < 32)) then (j6 true) else (j6 (decide (x2_2.1 = 127))))) = some ((bmp (i - a) (bmp (p - i + shwN u) (if shwN u = 0 then 0 else quoN q d (u.drop (shwN u)))) : Nat) : Int) := by
      intro p u hp hu hip hip1
      have nx := rnext_at hk hs hl' p
      rw [hu] at nx
      refine bS (by (try simp (disch := omega) only [fwI]); exact nx) ?_
      by_cases h : (dec u).1 < 32 ∨ (dec u).1 = 127
      ·have sw : shwN u = 0 := by unfold shwN; rw [if_pos h]
       rw [sw, if_pos rfl]
       refine (jS (v := true) (fun j => ?_)).trans rfl
       by_cases h1 : (dec u).1 < 32
       ·refine iT (dT h1) rfl
       ·refine iF (dF h1) ?_
        rw [dT (by omega)]
      ·have une : u ≠ [] := by intro e; rw [e] at h; exact h (.inl (by decide))
       obtain ⟨n, n1, n2, n3, n4, -⟩ := dec_size une
       have sw : shwN u = n := by unfold shwN; rw [if_neg h, n1, Int.toNat_natCast]
       rw [sw, if_neg (by clear n1; omega), n1]
       refine (jS (v := false) (fun j => ?_)).trans ?_
       ·refine iF (dF (by omega)) ?_
        rw [dF (by omega)]
       ·refine iF rfl ?_
        have ul : u.length = s.length - p := by rw [← hu, List.length_drop]
        clear n1 nx
        rw [fw_a (by omega) (by omega)]
        refine (ih f (p + n) (by omega) (by omega) (by omega) (by omega)).trans (sn ?_)
        rw [← List.drop_drop, hu]
        unfold bmp
        repeat' split
        all_goals omega
     by_cases h92 : c = 92
     ·subst h92
      rw [if_pos rfl]
      refine (jS (v := ((i + 1 : Nat) : Int)) (fun j => ?_)).trans ?_
      ·refine iT rfl ?_
       rw [fw_s (by omega)]
      ·have := step (i + 1) r (by omega) hr (by omega) (Nat.le_refl _)
       rw [show i + 1 - i = 1 by omega] at this
       exact this
     ·rw [if_neg h92]
      refine (jS (v := (i : Int)) (fun j => ?_)).trans ?_
      ·refine iF (dF (by omega)) rfl
      ·have := step i (c :: r) (by omega) hc (Nat.le_refl _) (by omega)
       rw [show i - i + shwN (c :: r) = shwN (c :: r) by omega] at this
       exact this
  ·rw [dnil hi]
   refine (jS (v := (false, (i : Int))) (fun j => ?_)).trans ?_
   ·simp (disch := omega) only [↓reduceIte, ↓jn, gsL]
   ·refine iF rfl ?_
    refine iT (by first | (simp (disch := omega) only [↓reduceIte, ↓jn, gsL]; done) | rfl) ?_
    rfl
theorem rquoted_at {k : Nat} {s : List Nat} (hk : s.length + 6 ≤ k) (hs : By s) (hl : Sz s) {a q : Nat} {t : List Nat} (hq : s.drop a = q :: t) (hq2 : q = 39 ∨ q = 34) : g62 k s (a : Int) = some ((qtdN (s.drop a) : Nat) : Int) := by
 have tl := drop_len hq
 have hl' := hl
 unfold Sz at hl
 unfold g62
 rw [fw_s (by omega)]
 refine (rquoted_l (k := k) (by omega) hs hl' hq hq2 t.length k (a + 1) (by omega) (by omega) (by omega) (by omega)).trans (sn ?_)
 rw [drop_step hq, hq, show a + 1 - a = 1 by omega]
 rfl
theorem rchar_at {k : Nat} (hk : 10 ≤ k) {s : List Nat} (hs : By s) (hl : Sz s) {a q : Nat} {t : List Nat} (hq : s.drop a = q :: t) : g63 k s (a : Int) = some ((chrN (s.drop a) : Nat) : Int) := by
 have tl := drop_len hq
 have dt := drop_step hq
 have hl' := hl
 unfold Sz at hl
 unfold g63
 rw [hq]
 cases t with
 | nil =>
  simp only [List.length_nil] at tl
  refine (jS (v := false) (fun j => ?_)).trans ?_
  ·simp (disch := omega) only [↓reduceIte, ↓jn, gsL]
  ·refine iF rfl ?_
   have nx := rnext_at (k := k) (by omega) hs hl' (a + 1)
   rw [dt] at nx
   rw [fw_s (by omega)]
   refine bS (by (try simp (disch := omega) only [fwI]); exact nx) ?_
   rfl
 | cons c r =>
  simp only [List.length_cons] at tl
  have c256 := hs c (drop_mem dt)
  have n1 : nthS s ((a + 1 : Nat) : Int) = some (c : Int) := nthX rfl dt
  rw [fw_s (by omega)]
  simp only [chrN]
  by_cases h92 : c = 92
  ·rw [if_pos h92]
   refine (jS (v := true) (fun j => ?_)).trans ?_
   ·refine iT (by first | (simp (disch := omega) only [↓reduceIte, ↓jn, gsL]; done) | rfl) ?_
    refine bS (by (try simp (disch := omega) only [fwI]); exact n1) ?_
    rw [dT (by omega)]
   ·refine iT rfl ?_
    have ea := rescape_at hk hs hl' (a + 1)
    rw [dt] at ea
    refine bS (by (try simp (disch := omega) only [fwI]); exact ea) ?_
    rcases escN_cases (c :: r) with h | ⟨v, n, h, h2, h3⟩
    ·rw [h]; rfl
    ·rw [h]
     simp only [List.length_cons] at h3
     have : (0 : Int) < ((n : Nat) : Int) := by omega
     simp only []
     rw [if_pos this]
     refine iT (dT (by omega)) ?_
     rw [fw_s (by omega), Int.toNat_natCast]
  ·rw [if_neg h92]
   refine (jS (v := false) (fun j => ?_)).trans ?_
   ·refine iT (by first | (simp (disch := omega) only [↓reduceIte, ↓jn, gsL]; done) | rfl) ?_
    refine bS (by (try simp (disch := omega) only [fwI]); exact n1) ?_
    rw [dF (by omega)]
   ·refine iF rfl ?_
    have nx := rnext_at (k := k) (by omega) hs hl' (a + 1)
    rw [dt] at nx
    refine bS (by (try simp (disch := omega) only [fwI]); exact nx) ?_
    by_cases h : (dec (c :: r)).1 ≤ 32 ∨ (dec (c :: r)).1 = 127
    ·have : ¬ (shwN (c :: r) ≠ 0 ∧ c ≠ 32) := by
      rintro ⟨h1, h2⟩
      apply h1
      unfold shwN
      rw [if_pos]
      by_cases h3 : c < 128
      ·rw [dec_ascii r h3] at h ⊢
       simp only [] at h ⊢
       omega
      ·rcases dec_big r h3 with h4 | h4 <;> omega
     rw [if_neg this]
     refine (jS (v := true) (fun j => ?_)).trans rfl
     by_cases h1 : (dec (c :: r)).1 ≤ 32
     ·refine iT (dT h1) rfl
     ·refine iF (dF h1) ?_
      rw [dT (by omega)]
    ·obtain ⟨n, n1', n2, n3, n4, -⟩ := dec_size (s := c :: r) (by simp)
     have sw : shwN (c :: r) = n := by unfold shwN; rw [if_neg (by omega), n1', Int.toNat_natCast]
     have c32 : c ≠ 32 := by
      intro e; subst e
      rw [dec_ascii r (by decide)] at h
      exact h (.inl (by decide))
     rw [sw, if_pos (show n ≠ 0 ∧ c ≠ 32 from ⟨by clear n1'; omega, c32⟩), n1']
     simp only [List.length_cons] at n4
     refine (jS (v := false) (fun j => ?_)).trans ?_
     ·refine iF (dF (by omega)) ?_
      rw [dF (by omega)]
     ·refine iF rfl ?_
      clear n1' nx
      rw [fw_s (by omega)]
end Go.Proofs.Ytbmijiibfaacmaa.Am
set_option maxRecDepth 100000
set_option linter.unusedVariables false
set_option linter.unusedSimpArgs false
namespace Go.Proofs.Ytbmijiibfaacmaa.Am
open Go
theorem run_no35 {b : Nat} (hb : b ≤ 99) : ∀ (p : Bool) (s : List Nat), 35 ∉ s.take (runN b p s)
 | _, [], h => by simp at h
 | p, c :: r, h => by
  simp only [runN] at h
  split at h
  ·rename_i hc
   rw [List.take_succ_cons] at h
   rcases List.mem_cons.1 h with e | e
   ·subst e
    have : dgN 35 = 99 := by decide
    omega
   ·exact run_no35 hb true r e
  ·split at h
   ·rename_i hc hp
    rw [List.take_succ_cons] at h
    rcases List.mem_cons.1 h with e | e
    ·subst e
     simp at hp
    ·exact run_no35 hb false r e
   ·simp at h
theorem front_35 {s : List Nat} (h : (frontN s).1 ≠ 0) : ∃ m r, (frontN s).1 = m + 1 ∧ s.drop m = 35 :: r ∧ runN 10 false s = m := by
 have d35 : ¬ dgN 35 < 10 := by decide
 revert h
 unfold frontN
 split
 ·rename_i a b r
  split
  ·rename_i ha
   split
   ·rename_i hb
    subst hb
    split
    ·intro _
     refine ⟨1, r, rfl, rfl, ?_⟩
     simp [runN, ha, d35]
    ·intro h; exact absurd rfl h
   ·split
    ·rename_i hb
     split
     ·rename_i c r'
      split
      ·rename_i hc
       obtain ⟨rfl, -⟩ := hc
       intro _
       refine ⟨2, r', rfl, rfl, ?_⟩
       simp [runN, ha, hb, d35]
      ·intro h; exact absurd rfl h
     ·intro h; exact absurd rfl h
    ·intro h; exact absurd rfl h
  ·intro h; exact absurd rfl h
 ·intro h; exact absurd rfl h
theorem hash_iff (s : List Nat) : (35 ∈ s.take (wholeN s)) ↔ ¬ ((frontN s).1 = 0 ∨ wholeN s < (frontN s).1) := by
 by_cases h : 0 < (frontN s).1 ∧ 0 < runN (frontN s).2 false (s.drop (frontN s).1)
 ·have hw : wholeN s = (frontN s).1 + runN (frontN s).2 false (s.drop (frontN s).1) := by unfold wholeN; rw [if_pos h]
  obtain ⟨m, r, h1, h2, -⟩ := front_35 (s := s) (by omega)
  constructor
  ·intro _; omega
  ·intro _
   rw [hw, h1]
   have dl := drop_len h2
   have : s.take (m + 1 + runN (frontN s).2 false (s.drop (m + 1))) = s.take m ++ (35 :: r.take (runN (frontN s).2 false (s.drop (m + 1)))) := by
    rw [Nat.add_assoc, List.take_add, h2, Nat.add_comm 1, List.take_succ_cons]
   rw [this]
   simp
 ·have hw : wholeN s = runN 10 false s := by unfold wholeN; rw [if_neg h]
  rw [hw]
  constructor
  ·intro hm; exact absurd hm (run_no35 (by decide) false s)
  ·intro hn
   exfalso
   apply hn
   by_cases h0 : (frontN s).1 = 0
   ·exact .inl h0
   ·right
    obtain ⟨m, r, h1, h2, h3⟩ := front_35 h0
    omega
theorem rnum_l (k : Nat) {s : List Nat} (hl : Sz s) (c11 : Unit → Option (S46 × Int)) {a w : Nat} (ha : a + w ≤ s.length) (kind : Int) : ∀ (f i : Nat) (b : Bool), a + w < i + f → i ≤ a + w →
 g59_l9 k c11 s (a : Int) (kind, (w : Int)) f b (i : Int) = if b = true ∨ 35 ∈ (s.drop i).take (a + w - i) then c11 () else some (tok0, 4)
 | 0, i, b, h, h2 => by omega
 | f + 1, i, b, h, h2 => by
  have hl' := hl
  unfold Sz at hl
  rw [g59_l9_s]
  show (if decide ((i : Int) < fW .i64 ((a : Int) + (w : Int))) then _ else _) = _
  rw [fw_a (by omega) (by omega)]
  rcases Nat.lt_or_ge i (a + w) with hi | hi
  ·obtain ⟨c, r, hc, hr, hm, hrl⟩ := dcons (s := s) (i := i) (by omega)
   have nc := nthX (x := (i : Int)) rfl hc
   refine iT (dT (by omega)) ?_
   have ih := rnum_l k hl' c11 ha kind f (i + 1) (b || decide (c = 35)) (by omega) (by omega)
   refine (jS (v := (b || decide (c = 35), (i : Int))) (fun j => ?_)).trans ?_
   ·cases b with
    | true => rfl
    | false =>
     refine iF rfl ?_
     refine bS (by (try simp (disch := omega) only [fwI]); exact nc) ?_
     congr 2
     rw [Bool.eq_iff_iff]; simp; omega
   ·show g59_l9 k c11 s (a : Int) (kind, (w : Int)) f (b || decide (c = 35)) (fW .i64 ((i : Int) + 1)) = _
    rw [fw_s (by omega)]
    refine ih.trans ?_
    rw [hr, hc, show a + w - i = (a + w - (i + 1)) + 1 by omega, List.take_succ_cons]
    have : ((b || decide (c = 35)) = true ∨ 35 ∈ r.take (a + w - (i + 1))) ↔ (b = true ∨ 35 ∈ c :: r.take (a + w - (i + 1))) := by
     rw [List.mem_cons, Bool.or_eq_true, decide_eq_true_eq]
     constructor
     ·rintro ((h | h) | h)
      ·exact .inl h
      ·exact .inr (.inl h.symm)
      ·exact .inr (.inr h)
     ·rintro (h | h | h)
      ·exact .inl (.inl h)
      ·exact .inl (.inr h.symm)
      ·exact .inr h
    simp only [this]
  ·refine iF (dF (by omega)) ?_
   rw [show a + w - i = 0 by omega, List.take_zero]
   cases b <;> simp <;> rfl
theorem rnumber_at {k : Nat} {s : List Nat} (hk : s.length + 4 < k) (hs : By s) (hl : Sz s) {a : Nat} (ha : a ≤ s.length) : g59 k s (a : Int) = some (if (numN (s.drop a)).1 = 0 then (tok0, 4) else (mkTok s ((numN (s.drop a)).2, a, (numN (s.drop a)).1), 0)) := by
 have hl' := hl
 unfold Sz at hl
 unfold g59
 refine bS (by (try simp (disch := omega) only [fwI]); exact rbroken_at (by omega) hs hl' ha) ?_
 have pl := partN_le (s.drop a)
 have wl := wholeN_le (s.drop a)
 rw [List.length_drop] at pl wl
 have hi := hash_iff (s.drop a)
 have key : ∀ (n kind : Nat), n ≤ s.length - a → (kind = 4 ∧ n ≠ 0 ∨ kind = 3 ∧ n = wholeN (s.drop a)) →
  (jn (fun (z7 : Bool) => if z7 then (some ((⟨(0 : Int), ([] : List Nat), (0 : Int)⟩ : S46), (4 : Int))) else (jn (fun (z8 : Bool) => jn (fun (z11 : Unit) => (subL s (some (a : Int)) (some (fW .i64 ((a : Int) + (n : Int))))).bind fun x4_4 => some ((⟨(kind : Int), x4_4, (a : Int)⟩ : S46), (0 : Int))) (fun j11 => if z8 then (g59_l9 k j11 s (a : Int) ((kind : Int), (n : Int)) k false (a : Int)) else (j11 ()))) (fun j8 => if (decide ((kind : Int) = 3)) then (if (decide (fW .i64 ((a : Int) + (n : Int)) < (s.length : Int))) then ((nthS s (fW .i64 ((a : Int) + (n : Int)))).bind fun x3_11 => j8 (decide (x3_11 = 35))) else (j8 false)) else (j8 false)))) (fun j7 => if (decide ((n : Int) = 0)) then (j7 true) else (if (decide (fW .i64 ((a : Int) + (n : Int)) < (s.length : Int))) then ((nthS s (fW .i64 ((a : Int) + (n : Int)))).bind fun x2_10 => (g74 k x2_10).bind fun x2_11 => j7 x2_11) else (j7 false))))
  = some (if (if kind = 3 ∧ hashN (s.drop a) n = true then (0, 0) else endN (s.drop a) n kind).1 = 0 then (tok0, 4) else (mkTok s ((if kind = 3 ∧ hashN (s.drop a) n = true then (0, 0) else endN (s.drop a) n kind).2, a, (if kind = 3 ∧ hashN (s.drop a) n = true then (0, 0) else endN (s.drop a) n kind).1), 0)) := by
  intro n kind hn hkind
  rw [fw_a (n := a) (m := n) (by omega) (by omega)]
  have out : (subL s (some (a : Int)) (some ((a + n : Nat) : Int))).bind (fun x4_4 => some ((⟨(kind : Int), x4_4, (a : Int)⟩ : S46), (0 : Int))) = some (mkTok s (kind, a, n), 0) := by
   refine bS (by (try simp (disch := omega) only [fwI]); exact subMid (s := s) (i := a) (j := a + n) rfl rfl (by omega) (by omega)) ?_
   rw [List.drop_take, Nat.add_sub_cancel_left]; rfl
  by_cases h0 : n = 0
  ·subst h0
   refine (jS (v := true) (fun j => rfl)).trans ?_
   refine iT rfl ?_
   rw [if_pos]
   ·rfl
   ·by_cases hh : kind = 3 ∧ hashN (s.drop a) 0 = true
    ·rw [if_pos hh]
    ·rw [if_neg hh]; unfold endN; split
     ·split <;> rfl
     ·rfl
  ·rcases Nat.lt_or_ge (a + n) s.length with h | h
   ·obtain ⟨c, r, hc, hr, hm, hrl⟩ := dcons h
    have nc := nthX (x := ((a + n : Nat) : Int)) rfl hc
    have hc' : (s.drop a).drop n = c :: r := by rw [List.drop_drop]; exact hc
    refine (jS (v := inrN c) (fun j => ?_)).trans ?_
    ·refine iF (dF (by omega)) ?_
     refine iT (dT (by omega)) ?_
     refine bS (by (try simp (disch := omega) only [fwI]); exact nc) ?_
     refine bS (by (try simp (disch := omega) only [fwI]); exact inner_at74 k (hs c hm)) ?_
     rfl
    ·cases hin : inrN c with
     | true =>
      refine iT rfl ?_
      rw [if_pos]
      ·rfl
      ·by_cases hh : kind = 3 ∧ hashN (s.drop a) n = true
       ·rw [if_pos hh]
       ·rw [if_neg hh]; unfold endN; rw [hc']; simp only [hin, if_true]
     | false =>
      refine iF rfl ?_
      have he : endN (s.drop a) n kind = (n, kind) := by unfold endN; rw [hc']; simp only [hin, Bool.false_eq_true, if_false]
      rw [he]
      by_cases h35 : kind = 3 ∧ c = 35
      ·obtain ⟨rfl, rfl⟩ := h35
       have hw : n = wholeN (s.drop a) := by
        rcases hkind with h | h
        ·omega
        ·exact h.2
       refine (jS (v := true) (fun j => ?_)).trans ?_
       ·refine iT rfl ?_
        refine iT (dT (by omega)) ?_
        refine bS (by (try simp (disch := omega) only [fwI]); exact nc) ?_
        rfl
       ·have hh : hashN (s.drop a) n = decide ((frontN (s.drop a)).1 = 0 ∨ n < (frontN (s.drop a)).1) := by
         unfold hashN; rw [hc']; rw [Bool.eq_iff_iff]; simp
        rw [← hw] at hi
        have lp := fun c11 => rnum_l k hl' c11 (a := a) (w := n) (by omega) 3 k a false (by omega) (by omega)
        rw [show a + n - a = n by omega] at lp
        by_cases hb : 35 ∈ (s.drop a).take n
        ·have : hashN (s.drop a) n = false := by rw [hh]; exact decide_eq_false (hi.1 hb)
         rw [this]
         refine (jS (v := ()) (fun j => ?_)).trans ?_
         ·refine iT rfl ?_
          refine (lp j).trans ?_
          rw [if_pos (.inr hb)]
         ·refine out.trans ?_
          simp only [Bool.false_eq_true, and_false, if_false]
          rw [if_neg h0]
        ·have : hashN (s.drop a) n = true := by
          rw [hh]; refine decide_eq_true ?_
          by_cases h1 : (frontN (s.drop a)).1 = 0 ∨ n < (frontN (s.drop a)).1
          ·exact h1
          ·exact absurd (hi.2 h1) hb
         rw [this]
         refine jC fun j => ?_
         refine iT rfl ?_
         refine (lp j).trans ?_
         rw [if_neg (by rintro (h | h); exact absurd h (by decide); exact hb h)]
         rfl
      ·have hnh : ¬ (kind = 3 ∧ hashN (s.drop a) n = true) := by
        rintro ⟨h1, h2⟩
        unfold hashN at h2
        rw [hc'] at h2
        simp only [Bool.and_eq_true, decide_eq_true_eq] at h2
        exact h35 ⟨h1, h2.1⟩
       rw [if_neg hnh]
       refine (jS (v := false) (fun j => ?_)).trans ?_
       ·rcases hkind with ⟨rfl, -⟩ | ⟨rfl, -⟩
        ·rfl
        ·refine iT rfl ?_
         refine iT (dT (by omega)) ?_
         refine bS (by (try simp (disch := omega) only [fwI]); exact nc) ?_
         rw [dF (by omega)]
       ·refine (jS (v := ()) (fun j => rfl)).trans ?_
        refine out.trans ?_
        rw [if_neg h0]
   ·have hc' : (s.drop a).drop n = [] := by rw [List.drop_drop]; exact dnil h
    have he : endN (s.drop a) n kind = (n, kind) := by unfold endN; rw [hc']
    have hh : hashN (s.drop a) n = false := by unfold hashN; rw [hc']
    rw [he, hh]
    simp only [Bool.false_eq_true, and_false, if_false]
    rw [if_neg h0]
    refine (jS (v := false) (fun j => ?_)).trans ?_
    ·refine iF (dF (by omega)) ?_
     refine iF (dF (by omega)) rfl
    ·refine iF rfl ?_
     refine (jS (v := false) (fun j => ?_)).trans ?_
     ·rcases hkind with ⟨rfl, -⟩ | ⟨rfl, -⟩
      ·rfl
      ·refine iT rfl ?_
       refine iF (dF (by omega)) rfl
     ·exact (jS (v := ()) (fun j => rfl)).trans out
 unfold numN
 by_cases h0 : partN (s.drop a) = 0
 ·rw [if_pos h0]
  refine (jS (v := ((3 : Int), (wholeN (s.drop a) : Int))) (fun j => ?_)).trans ?_
  ·refine iT (dT (by omega)) ?_
   refine bS (by (try simp (disch := omega) only [fwI]); exact rwhole_at (by omega) (by omega) hs hl' ha) ?_
   rfl
  ·refine (key (wholeN (s.drop a)) 3 wl (.inr ⟨rfl, rfl⟩)).trans ?_
   simp only [true_and]
 ·rw [if_neg h0]
  refine (jS (v := ((4 : Int), (partN (s.drop a) : Int))) (fun j => ?_)).trans ?_
  ·refine iF (dF (by omega)) rfl
  ·refine (key (partN (s.drop a)) 4 pl (.inl ⟨rfl, h0⟩)).trans ?_
   rfl
end Go.Proofs.Ytbmijiibfaacmaa.Am
set_option maxRecDepth 100000
set_option linter.unusedVariables false
set_option linter.unusedSimpArgs false
namespace Go.Proofs.Ytbmijiibfaacmaa.Am
open Go
theorem vld_nil (n : Nat) : vld n [] = true := by cases n <;> rfl
theorem vld_cons {n : Nat} {s : List Nat} (h : s ≠ []) : vld (n + 1) s = if (dec s).1 < 0 then false else vld n (s.drop (dec s).2.toNat) := by
 cases s with
 | nil => exact absurd rfl h
 | cons c r => rfl
theorem vld_more : ∀ (n m : Nat) (s : List Nat), s.length ≤ n → s.length ≤ m → vld n s = vld m s
 | 0, m, s, h1, h2 => by
  have : s = [] := List.eq_nil_of_length_eq_zero (by omega)
  rw [this, vld_nil, vld_nil]
 | n + 1, 0, s, h1, h2 => by
  have : s = [] := List.eq_nil_of_length_eq_zero (by omega)
  rw [this, vld_nil, vld_nil]
 | n + 1, m + 1, s, h1, h2 => by
  by_cases hs : s = []
  ·rw [hs, vld_nil, vld_nil]
  ·obtain ⟨q, n1, n2, n3, n4, n5⟩ := dec_size hs
   rw [vld_cons hs, vld_cons hs, n1]
   have := vld_more n m (s.drop q) (by rw [List.length_drop]; clear n1; omega) (by rw [List.length_drop]; clear n1; omega)
   simp only [Int.toNat_natCast]
   rw [this]
end Go.Proofs.Ytbmijiibfaacmaa.Am
set_option maxRecDepth 100000
set_option linter.unusedVariables false
set_option linter.unusedSimpArgs false
namespace Go.Proofs.Ytbmijiibfaacmaa.Am
open Go
def V (s : List Nat) : Bool := vld s.length s
theorem V_cons {s : List Nat} (h : s ≠ []) : V s = if (dec s).1 < 0 then false else V (s.drop (dec s).2.toNat) := by
 obtain ⟨n, n1, n2, n3, n4, -⟩ := dec_size h
 unfold V
 obtain ⟨m, hm⟩ : ∃ m, s.length = m + 1 := ⟨s.length - 1, by clear n1; omega⟩
 rw [hm, vld_cons h, n1, Int.toNat_natCast, vld_more m (s.drop n).length (s.drop n) (by rw [List.length_drop]; clear n1; omega) (Nat.le_refl _)]
theorem V_ascii {c : Nat} (r : List Nat) (h : c < 128) : V (c :: r) = V r := by
 rw [V_cons (by simp), dec_ascii r h, if_neg (by show ¬ (c : Int) < 0; omega)]; rfl
def Toks (s : List Nat) : Nat → List (Nat × Nat × Nat) → Prop
 | a, [] => s.length ≤ a + skipN (s.drop a)
 | a, x :: l => x.2.1 = a + skipN (s.drop a) ∧ x.2.1 < s.length ∧ oneN (s.drop x.2.1) = (x.2.2, x.1) ∧ x.2.2 ≠ 0 ∧ Toks s (x.2.1 + x.2.2) l
theorem toks_iff (s : List Nat) : ∀ (f a : Nat) (l : List (Nat × Nat × Nat)), s.length < a + f → (toksN s f a = some l ↔ Toks s a l)
 | 0, a, l, h => by
  have hd : s.drop a = [] := dnil (by omega)
  simp only [toksN]
  cases l with
  | nil => simp only [Toks, hd, skipN]; simp; omega
  | cons x l =>
   simp only [Toks, hd, skipN]
   constructor
   ·intro h; cases h
   ·rintro ⟨h1, h2, -⟩; omega
 | f + 1, a, l, h => by
  have ih := fun a' l' hh => toks_iff s f a' l' hh
  unfold toksN
  by_cases hb : s.length ≤ a + skipN (s.drop a)
  ·rw [if_pos hb]
   cases l with
   | nil => simp only [Toks]; simp [hb]
   | cons x l =>
    simp only [Toks]
    constructor
    ·intro h; cases h
    ·rintro ⟨h1, h2, -⟩; omega
  ·rw [if_neg hb]
   by_cases h0 : (oneN (s.drop (a + skipN (s.drop a)))).1 = 0
   ·rw [if_pos h0]
    cases l with
    | nil => simp only [Toks]; simp; omega
    | cons x l =>
     simp only [Toks]
     constructor
     ·intro h; cases h
     ·rintro ⟨h1, h2, h3, h4, -⟩
      rw [← h1, h3] at h0
      exact absurd h0 h4
   ·rw [if_neg h0]
    cases l with
    | nil =>
     simp only [Toks]
     constructor
     ·intro h
      cases ht : toksN s f (a + skipN (s.drop a) + (oneN (s.drop (a + skipN (s.drop a)))).1) with
      | none => rw [ht] at h; cases h
      | some l => rw [ht] at h; cases h
     ·intro h; exact absurd h hb
    | cons x l =>
     obtain ⟨k, b, n⟩ := x
     simp only [Toks]
     constructor
     ·intro h
      cases ht : toksN s f (a + skipN (s.drop a) + (oneN (s.drop (a + skipN (s.drop a)))).1) with
      | none => rw [ht] at h; cases h
      | some l' =>
       rw [ht] at h
       cases h
       refine ⟨rfl, by omega, rfl, h0, ?_⟩
       exact (ih _ _ (by have := Nat.pos_of_ne_zero h0; omega)).1 ht
     ·rintro ⟨rfl, h2, h3, h4, h5⟩
      have e1 : (oneN (s.drop (a + skipN (s.drop a)))).1 = n := by rw [h3]
      have e2 : (oneN (s.drop (a + skipN (s.drop a)))).2 = k := by rw [h3]
      rw [e1, e2, (ih _ _ (by have := Nat.pos_of_ne_zero h4; omega)).2 h5]
      rfl
theorem toks_bounds {s : List Nat} : ∀ {l : List (Nat × Nat × Nat)} {a : Nat}, Toks s a l → a ≤ s.length → ∀ x ∈ l, a ≤ x.2.1 ∧ x.2.1 + x.2.2 ≤ s.length ∧ x.2.2 ≠ 0
 | [], a, h, ha, x, hx => by cases hx
 | y :: l, a, h, ha, x, hx => by
  obtain ⟨h1, h2, h3, h4, h5⟩ := h
  have ol := oneN_le (s.drop y.2.1)
  rw [h3, List.length_drop] at ol
  rcases List.mem_cons.1 hx with rfl | hx
  ·exact ⟨by omega, by simp only [] at ol; omega, h4⟩
  ·have := toks_bounds h5 (by simp only [] at ol; omega) x hx
   omega
theorem toks_from {s : List Nat} {a a' : Nat} {l : List (Nat × Nat × Nat)} (h : Toks s a l) (e : a + skipN (s.drop a) = a' + skipN (s.drop a')) : Toks s a' l := by
 cases l with
 | nil => simp only [Toks] at h ⊢; omega
 | cons x l =>
  simp only [Toks] at h ⊢
  rw [← e]; exact h
theorem scan_some {s : List Nat} (h16 : s.length ≤ 65536) (hv : V s = true) {l : List (Nat × Nat × Nat)} (h : Toks s 0 l) : scanN s = (l.map (mkTok s), 0) := by
 unfold scanN
 unfold V at hv
 rw [if_neg (by omega), hv, if_neg (by decide), (toks_iff s (s.length + 1) 0 l (by omega)).2 h]
end Go.Proofs.Ytbmijiibfaacmaa.Am
set_option maxRecDepth 100000
set_option linter.unusedVariables false
set_option linter.unusedSimpArgs false
namespace Go.Proofs.Ytbmijiibfaacmaa.Am
open Go
def macB (t : List Nat) : Bool := match t with | c :: _ => decide (begN c = 1 ∨ begN c = 2) | [] => false
theorem begN_le (c : Nat) : begN c ≤ 3 := by
 unfold begN; repeat' split
 all_goals omega
theorem trmN_take (t : List Nat) (n : Nat) : ∀ i, i ≤ n → trmN (t.take n) i = trmN t i
 | 0, _ => rfl
 | i + 1, h => by
  have ih := trmN_take t n i (by omega)
  simp only [trmN, ih]
  rcases Nat.lt_or_ge i t.length with hi | hi
  ·obtain ⟨c, r, hc, hr, hm, hrl⟩ := dcons hi
   rw [hc, List.drop_take, hc, show n - i = (n - i - 1) + 1 by omega, List.take_succ_cons]
  ·rw [dnil hi, dnil (by rw [List.length_take]; omega)]
theorem trmN_pos {c : Nat} {r : List Nat} (h : blkN c = false) : ∀ i, 1 ≤ i → 1 ≤ trmN (c :: r) i
 | 0, h1 => absurd h1 (by decide)
 | i + 1, _ => by
  simp only [trmN]
  cases i with
  | zero => simp only [List.drop_zero, h, Bool.false_eq_true, if_false]; exact Nat.le_refl _
  | succ i =>
   have := trmN_pos (r := r) h (i + 1) (by omega)
   split
   ·split <;> omega
   ·omega
theorem lineN_no10 : ∀ s : List Nat, 10 ∉ s.take (lineN s)
 | [], h => by simp at h
 | c :: r, h => by
  simp only [lineN] at h
  split at h
  ·simp at h
  ·rw [List.take_succ_cons] at h
   rcases List.mem_cons.1 h with e | e
   ·rename_i hc; exact hc e.symm
   ·exact lineN_no10 r e
theorem cmtN_pos (r : List Nat) : 1 ≤ cmtN (37 :: r) := by
 unfold cmtN
 exact trmN_pos (by decide) _ (by simp [lineN])
theorem rtrm_l (k : Nat) {u : List Nat} (hl : Sz u) (h10 : 10 ∉ u) : ∀ (i f : Nat), i < f → i ≤ u.length → g57_l2 k u f (i : Int) = some (u.take (trmN u i))
 | 0, f, hf, hi => by
  obtain ⟨f, rfl⟩ : ∃ f', f = f' + 1 := ⟨f - 1, by omega⟩
  rw [g57_l2_s]
  refine (jS (v := (false, (0 : Int))) (fun j => rfl)).trans ?_
  refine iF rfl ?_
  refine bS (by (try simp (disch := omega) only [fwI]); exact subTo (s := u) (x := (0 : Int)) (i := 0) rfl (Nat.zero_le _)) ?_
  rfl
 | i + 1, f, hf, hi => by
  have hl' := hl
  unfold Sz at hl
  obtain ⟨f, rfl⟩ : ∃ f', f = f' + 1 := ⟨f - 1, by omega⟩
  rw [g57_l2_s]
  obtain ⟨c, r, hc, hr, hm, hrl⟩ := dcons (s := u) (i := i) (by omega)
  have nc := nthX (x := (i : Int)) rfl hc
  have c10 : c ≠ 10 := fun h => h10 (h ▸ hm)
  have ih := rtrm_l k hl' h10 i f (by omega) (by omega)
  rw [fw_p (by omega)]
  refine (jS (v := (blkN c, ((i + 1 : Nat) : Int))) (fun j => ?_)).trans ?_
  ·refine iT (dT (by omega)) ?_
   refine bS (by (try simp (disch := omega) only [fwI]); exact nc) ?_
   unfold blkN
   rw [decide_eq_false c10]
   by_cases h1 : c = 32
   ·refine iT (dT (by omega)) ?_
    rw [decide_eq_true h1]; rfl
   refine iF (dF (by omega)) ?_
   refine bS (by (try simp (disch := omega) only [fwI]); exact nc) ?_
   rw [decide_eq_false h1]
   by_cases h2 : c = 9
   ·refine iT (dT (by omega)) ?_
    rw [decide_eq_true h2]; rfl
   refine iF (dF (by omega)) ?_
   refine bS (by (try simp (disch := omega) only [fwI]); exact nc) ?_
   rw [decide_eq_false h2]
   have : decide ((c : Int) = 13) = decide (c = 13) := by rw [Bool.eq_iff_iff]; simp; omega
   rw [this]; rfl
  ·simp only [trmN, hc]
   cases blkN c with
   | true =>
    refine iT rfl ?_
    show g57_l2 k u f (fW .i64 (((i + 1 : Nat) : Int) - 1)) = _
    rw [fw_p (by omega)]
    exact ih
   | false =>
    refine iF rfl ?_
    refine bS (by (try simp (disch := omega) only [fwI]); exact subTo (s := u) (x := ((i + 1 : Nat) : Int)) (i := i + 1) rfl hi) ?_
    rfl
theorem rtrm_at {k : Nat} {u : List Nat} (hk : u.length < k) (hl : Sz u) (h10 : 10 ∉ u) : g57 k u = some (u.take (trmN u u.length)) := rtrm_l k hl h10 u.length k hk (Nat.le_refl _)
theorem rnote_l {k : Nat} {s : List Nat} (hk : s.length < k) (hs : By s) (hl : Sz s) {a : Nat} {t : List Nat} (ha : s.drop a = 37 :: t) : ∀ (f i : Nat), s.length < i + f → i ≤ s.length → i + lineN (s.drop i) = a + lineN (s.drop a) → a ≤ i → g46_l18 k s (a : Int) f (i : Int) = some (mkTok s (11, a, cmtN (s.drop a)), 0)
 | 0, i, h, h2, h3, h4 => by omega
 | f + 1, i, h, h2, h3, h4 => by
  have hl' := hl
  unfold Sz at hl
  rw [g46_l18_s]
  have fin : i = a + lineN (s.drop a) → (subL s (some (a : Int)) (some (i : Int))).bind (fun x16_3 => (g57 k x16_3).bind fun x16_4 => some ((⟨(11 : Int), x16_4, (a : Int)⟩ : S46), (0 : Int))) = some (mkTok s (11, a, cmtN (s.drop a)), 0) := by
   intro hi
   have ll := lineN_le (s.drop a)
   rw [List.length_drop] at ll
   refine bS (by (try simp (disch := omega) only [fwI]); exact subMid (s := s) (i := a) (j := i) rfl rfl h4 h2) ?_
   rw [List.drop_take, show i - a = lineN (s.drop a) by omega]
   have ul : ((s.drop a).take (lineN (s.drop a))).length = lineN (s.drop a) := by rw [List.length_take, List.length_drop]; omega
   refine bS (by (try simp (disch := omega) only [fwI]); exact rtrm_at (k := k) (u := (s.drop a).take (lineN (s.drop a))) (by rw [ul]; omega) (by unfold Sz; rw [ul]; omega) (lineN_no10 _)) ?_
   rw [ul, trmN_take _ _ _ (Nat.le_refl _), List.take_take, Nat.min_eq_left (trmN_le _ _)]
   rfl
  rcases Nat.lt_or_ge i s.length with hi | hi
  ·obtain ⟨c, r, hc, hr, hm, hrl⟩ := dcons hi
   have nc := nthX (x := (i : Int)) rfl hc
   have h3' := h3
   rw [hc] at h3
   simp only [lineN] at h3
   refine (jS (v := (!decide (c = 10), (i : Int))) (fun j => ?_)).trans ?_
   ·refine iT (dT (by omega)) ?_
    refine bS (by (try simp (disch := omega) only [fwI]); exact nc) ?_
    congr 2
    rw [Bool.eq_iff_iff]; simp; omega
   ·by_cases h10 : c = 10
    ·rw [decide_eq_true h10]
     rw [if_pos h10] at h3
     refine iF rfl ?_
     exact fin (by omega)
    ·rw [decide_eq_false h10]
     rw [if_neg h10] at h3
     refine iT rfl ?_
     have e : ∀ _ : Unit, fW .i64 ((i : Int) + 1) = ((i + 1 : Nat) : Int) := fun _ => fw_s (by omega)
     have ih := rnote_l hk hs hl' ha f (i + 1) (by omega) (by omega) (by rw [hr]; omega) (by omega)
     show g46_l18 k s (a : Int) f (fW .i64 ((i : Int) + 1)) = _
     rw [e ()]
     exact ih
  ·refine (jS (v := (false, (i : Int))) (fun j => ?_)).trans ?_
   ·refine iF (dF (by omega)) rfl
   ·refine iF rfl ?_
    rw [dnil hi] at h3
    exact fin (by simpa [lineN] using h3)
end Go.Proofs.Ytbmijiibfaacmaa.Am
