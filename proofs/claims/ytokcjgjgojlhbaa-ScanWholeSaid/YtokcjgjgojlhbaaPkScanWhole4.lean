/- LawScanWhole, part 4: whatever the input, the law comes out true: our texts, joined by a tool, without what the claim does not name. -/
import Derived.Test.YtokcjgjgojlhbaaPkScanWhole3
import Derived.Below
import Derived.Test.YtokcjgjgojlhbaaRows
import Derived.WalkKit
import Derived.ProofKit
import Derived.OpenShut
import Derived.ShutString
import Derived.ChangeOld
import Derived.SizedLaws
set_option maxRecDepth 100000
set_option linter.unusedVariables false
set_option linter.unusedSimpArgs false
namespace Go.Proofs.Ytokcjgjgojlhbaa.Am
open Go
theorem toks_V {s : List Nat} : ∀ {l : List (Nat × Nat × Nat)} {a : Nat}, Toks s a l → V (s.drop a) = true → ∀ x ∈ l, V ((s.drop x.2.1).take x.2.2) = true ∧ V (s.drop x.2.1) = true
 | [], a, h, hv, x, hx => by cases hx
 | y :: l, a, h, hv, x, hx => by
  obtain ⟨h1, h2, h3, h4, h5⟩ := h
  have v1 : V (s.drop y.2.1) = true := by
   rw [h1, ← List.drop_drop, V_skip]; exact hv
  have hsplit : (s.drop y.2.1).take y.2.2 ++ s.drop (y.2.1 + y.2.2) = s.drop y.2.1 := by rw [← List.drop_drop, List.take_append_drop]
  have hnext : s.drop (y.2.1 + y.2.2) = [] ∨ ∃ c w, s.drop (y.2.1 + y.2.2) = c :: w ∧ c < 128 := by
   cases hd : s.drop (y.2.1 + y.2.2) with
   | nil => exact .inl rfl
   | cons c w =>
    refine .inr ⟨c, w, rfl, ?_⟩
    by_cases hb : blkN c = true
    ·exact blk_ascii hb
    ·have hs := skip_step hd (Bool.eq_false_iff.2 hb)
     cases l with
     | nil =>
      simp only [Toks] at h5
      rw [hs] at h5
      have := drop_len hd
      omega
     | cons z l =>
      obtain ⟨g1, g2, g3, g4, -⟩ := h5
      rw [hs, Nat.add_zero] at g1
      rw [g1, hd] at g3
      refine one_ascii (r := w) ?_
      rw [g3]; exact g4
  have v2 : V ((s.drop y.2.1).take y.2.2) = true := by
   refine V_cut _ _ (s.drop (y.2.1 + y.2.2)) (Nat.le_refl _) ?_ hnext
   rw [hsplit]; exact v1
  rcases List.mem_cons.1 hx with rfl | hx
  ·exact ⟨v2, v1⟩
  ·refine toks_V h5 ?_ x hx
   rw [← V_app _ v2, hsplit]; exact v1
theorem toks_head {s : List Nat} : ∀ {l : List (Nat × Nat × Nat)} {a : Nat}, Toks s a l → ∀ x ∈ l, oneN (s.drop x.2.1) = (x.2.2, x.1) ∧ x.2.2 ≠ 0 ∧ ∃ c r, s.drop x.2.1 = c :: r ∧ blkN c = false
 | [], a, h, x, hx => by cases hx
 | y :: l, a, h, x, hx => by
  obtain ⟨h1, h2, h3, h4, h5⟩ := h
  rcases List.mem_cons.1 hx with rfl | hx
  ·refine ⟨h3, h4, ?_⟩
   obtain ⟨c, r, hc, -, -, -⟩ := dcons h2
   refine ⟨c, r, hc, ?_⟩
   rw [h1, ← List.drop_drop] at hc
   exact skip_head hc
  ·exact toks_head h5 x hx
theorem scan_some {s : List Nat} (h16 : s.length ≤ 65536) (hv : V s = true) {l : List (Nat × Nat × Nat)} (h : Toks s 0 l) : scanN s = (l.map (mkTok s), 0) := by
 unfold scanN
 unfold V at hv
 rw [if_neg (by omega), hv, if_neg (by decide), (toks_iff s (s.length + 1) 0 l (by omega)).2 h]
theorem scan_ok {s : List Nat} (h : (scanN s).2 = 0) : ∃ l, Toks s 0 l ∧ scanN s = (l.map (mkTok s), 0) ∧ V s = true ∧ s.length ≤ 65536 := by
 unfold scanN at h ⊢
 by_cases h1 : 65536 < s.length
 ·rw [if_pos h1] at h; cases h
 ·rw [if_neg h1] at h ⊢
  by_cases h2 : vld s.length s = false
  ·rw [if_pos h2] at h; cases h
  ·rw [if_neg h2] at h ⊢
   cases ht : toksN s (s.length + 1) 0 with
   | none => rw [ht] at h; cases h
   | some l =>
    exact ⟨l, (toks_iff s (s.length + 1) 0 l (by omega)).1 ht, rfl, by unfold V; cases hv : vld s.length s with | true => rfl | false => exact absurd hv h2, by omega⟩
theorem scan_err {s : List Nat} (h : (scanN s).2 ≠ 0) : (scanN s).1 = [] := by
 unfold scanN at h ⊢
 by_cases h1 : 65536 < s.length
 ·rw [if_pos h1]
 ·rw [if_neg h1] at h ⊢
  by_cases h2 : vld s.length s = false
  ·rw [if_pos h2]
  ·rw [if_neg h2] at h ⊢
   cases ht : toksN s (s.length + 1) 0 with
   | none => rfl
   | some l => rw [ht] at h; exact absurd rfl h
theorem tok_alone {s : List Nat} {k b n : Nat} (h : oneN (s.drop b) = (n, k)) (hn : n ≠ 0) {c : Nat} {r : List Nat} (hc : s.drop b = c :: r) (hb : blkN c = false) : ∃ u, (s.drop b).take n = c :: u ∧ (c :: u).length = n ∧ oneN (c :: u) = (n, if c :: u = [46] then 10 else k) := by
 have ol := oneN_le (s.drop b)
 rw [h] at ol
 have ot := one_tk (s := s.drop b) (by rw [h]; exact hn)
 rw [h] at ot
 simp only [] at ol ot
 obtain ⟨n, rfl⟩ : ∃ m, n = m + 1 := ⟨n - 1, by omega⟩
 refine ⟨r.take n, by rw [hc, List.take_succ_cons], ?_, ?_⟩
 ·rw [hc, List.length_cons] at ol
  simp only [List.length_cons, List.length_take]; omega
 ·rw [hc, List.take_succ_cons] at ot; exact ot
end Go.Proofs.Ytokcjgjgojlhbaa.Am
set_option maxRecDepth 100000
set_option linter.unusedVariables false
namespace Go.Proofs.Ytokcjgjgojlhbaa.Am
noncomputable section
open Go
def X16 : Fx Int := ⟨Try.prog, cx, Try.f16, fun r => .int .i64 r, 0, fun _ => H0, cxTi, cxOrd⟩
def g16p0 : Pt := nav [0] (bodyAt Try.f16)
def g16p1 : Pt := nav [0, 0, 0, 0] g16p0
def g16p2 : Pt := nav [0, 0, 0, 0] g16p1
def g16p3 : Pt := nav [0, 0, 0] g16p2
def g16p4 : Pt := nav [0, 0] g16p3
def g16_l1 (k : Nat)  (a0 : (List Nat)) (n : Nat) : Int → Option Int :=
 Nat.rec (motive := fun _ => Int → Option Int) (fun _ => none) (fun _ ih => fun (y1_0 : Int) => jn (fun (z2 : Bool × Int) => if z2.1 then (ih (fwrap .i64 (z2.2 + 1))) else (some (minI z2.2 (a0.length : Int)))) (fun j2 => if (decide (y1_0 < (a0.length : Int))) then ((nthS a0 y1_0).bind fun x0_7 => (g30 k x0_7).bind fun x0_8 => j2 (x0_8, y1_0)) else (j2 (false, y1_0)))) n
theorem g16_l1_s (k : Nat)  (a0 : (List Nat)) (n : Nat) (y1_0 : Int) : g16_l1 k a0 (n + 1) y1_0 = (jn (fun (z2 : Bool × Int) => if z2.1 then ((g16_l1 k a0 n) (fwrap .i64 (z2.2 + 1))) else (some (minI z2.2 (a0.length : Int)))) (fun j2 => if (decide (y1_0 < (a0.length : Int))) then ((nthS a0 y1_0).bind fun x0_7 => (g30 k x0_7).bind fun x0_8 => j2 (x0_8, y1_0)) else (j2 (false, y1_0)))) := rfl
theorem g16_l1_ok (k : Nat)  (a0 : (List Nat))  : ∀ (n : Nat) (y1_0 : Int), Ok X16 g16p2 [(0, .str a0), (1, .int .i64 y1_0)] (mkH []) (g16_l1 k a0 n y1_0)
 | 0, _ => ok_none
 | n + 1, y1_0 => by
  have ih := g16_l1_ok k a0 n
  rw [g16_l1_s]
  refine ok_ent (p' := nav [0] g16p2) (by kernel_rfl) ?_
  let E2 : Env := [(11, .bool (decide (y1_0 < (a0.length : Int)))), (10, .bool (decide (y1_0 < (a0.length : Int)))), (9, .int .i64 (a0.length : Int)), (8, .str a0), (7, .int .i64 y1_0), (0, .str a0), (1, .int .i64 y1_0)]
  refine ok_run 8 (p' := (atN 5 (ctl1 g16p3))) (env' := E2) (H' := (mkH [])) (by kernel_rfl) ?_
  refine ok_jn (f := fun (z2 : Bool × Int) => if z2.1 then ((g16_l1 k a0 n) (fwrap .i64 (z2.2 + 1))) else (some (minI z2.2 (a0.length : Int)))) g16p4 (fun (z2 : Bool × Int) => [(0, .str a0), (1, .int .i64 z2.2), (16, .bool z2.1)]) (fun (z2 : Bool × Int) => (mkH [])) (fun z2 => ?_) (fun j2 hj2 => ?_)
  ·refine ok_split 16 (b := z2.1) (by kernel_rfl) (fun hb => ?_) (fun hb => ?_)
   ·let E3 : Env := [(1, .int .i64 (fwrap .i64 (z2.2 + 1))), (18, .int .i64 (fwrap .i64 (z2.2 + 1))), (17, .int .i64 z2.2), (16, .bool true), (0, .str a0), (1, .int .i64 z2.2), (16, .bool z2.1)]
    refine ok_run 10 (p' := g16p2) (env' := E3) (H' := (mkH [])) (by kernel_rfl) ?_
    refine ok_keep [0, 1] (env' := [(0, .str a0), (1, .int .i64 (fwrap .i64 (z2.2 + 1)))]) (by kernel_rfl) ?_
    exact ih (fwrap .i64 (z2.2 + 1))
   ·let E4 : Env := [(4, .int .i64 (minI z2.2 (a0.length : Int))), (22, .int .i64 (minI z2.2 (a0.length : Int))), (21, .int .i64 (a0.length : Int)), (20, .str a0), (19, .int .i64 z2.2), (16, .bool false), (0, .str a0), (1, .int .i64 z2.2), (16, .bool z2.1)]
    refine ok_run 11 (p' := .fin) (env' := E4) (H' := (mkH [])) (by kernel_rfl) ?_
    exact ok_ret (r := (minI z2.2 (a0.length : Int))) (xs := [.int .i64 (minI z2.2 (a0.length : Int))]) (v := .int .i64 (minI z2.2 (a0.length : Int))) (by kernel_rfl) (by kernel_rfl) (by kernel_rfl) (.pures (by kernel_rfl)) (by kernel_rfl)
  ·refine ok_split 11 (b := decide (y1_0 < (a0.length : Int))) (by kernel_rfl) (fun hb => ?_) (fun hb => ?_)
   ·refine ok_run 2 (p' := (atN 7 (ctl1 g16p3))) (env' := ((13, .int .i64 y1_0) :: (12, .str a0) :: (11, .bool true) :: E2)) (H' := (mkH [])) (by kernel_rfl) ?_
    refine ok_chk (fun (x0_7 : Int) => (.int .u8 x0_7, (mkH []))) (atN 8 (ctl1 g16p3)) (fun x0_7 => ((14, .int .u8 x0_7) :: (13, .int .i64 y1_0) :: (12, .str a0) :: (11, .bool true) :: E2)) (idxH (by kernel_rfl)) (fun _ => by kernel_rfl) (fun x0_7 hx0_7 => ?_)
    refine ok_call (fun (x0_8 : Bool) => .bool x0_8) (atN 9 (ctl1 g16p3)) (fun x0_8 => ((15, .bool x0_8) :: (14, .int .u8 x0_7) :: (13, .int .i64 y1_0) :: (12, .str a0) :: (11, .bool true) :: E2)) (fi := 30) (args := [.int .u8 x0_7]) (by kernel_rfl) (by kernel_rfl) (fun _ => by kernel_rfl) (fun r h => g30_ok k x0_7 r h) (fun _ => by kernel_rfl) (fun x0_8 hx0_8 => ?_)
    let E5 : Env := ((16, .bool x0_8) :: (15, .bool x0_8) :: (14, .int .u8 x0_7) :: (13, .int .i64 y1_0) :: (12, .str a0) :: (11, .bool true) :: E2)
    refine ok_run 2 (p' := g16p4) (env' := E5) (H' := (mkH [])) (by kernel_rfl) ?_
    refine ok_keep [0, 1, 16] (env' := [(0, .str a0), (1, .int .i64 y1_0), (16, .bool x0_8)]) (by kernel_rfl) ?_
    exact hj2 (x0_8, y1_0)
   ·let E6 : Env := ((16, .bool false) :: (15, .tuple []) :: (14, .tuple []) :: (13, .tuple []) :: (12, .tuple []) :: (11, .bool false) :: E2)
    refine ok_run 6 (p' := g16p4) (env' := E6) (H' := (mkH [])) (by kernel_rfl) ?_
    refine ok_keep [0, 1, 16] (env' := [(0, .str a0), (1, .int .i64 y1_0), (16, .bool false)]) (by kernel_rfl) ?_
    exact hj2 (false, y1_0)
def g16 (k : Nat) (a0 : (List Nat)) (a1 : Int) : Option Int :=
 g16_l1 k a0 k (maxI a1 0)
theorem g16_ok (k : Nat) (a0 : (List Nat)) (a1 : Int) (r : Int) (h : g16 k a0 a1 = some r) : PureOk Try.prog 16 [.str a0, .int .i64 a1] (.int .i64 r) := by
 refine pure_of X16 (fun _ => rfl) Try.func16 (by decide +kernel) (by kernel_rfl) (t := g16 k a0 a1) ?_ h
 unfold g16
 refine ok_env (env' := [(0, .str a0), (1, .int .i64 a1)]) (by kernel_rfl) ?_
 let E1 : Env := [(1, .int .i64 (maxI a1 0)), (6, .int .i64 (maxI a1 0)), (5, .int .i64 a1), (4, .int .i64 0), (0, .str a0), (1, .int .i64 a1)]
 refine ok_run 13 (p' := g16p2) (env' := E1) (H' := (mkH [])) (by kernel_rfl) ?_
 refine ok_keep [0, 1] (env' := [(0, .str a0), (1, .int .i64 (maxI a1 0))]) (by kernel_rfl) ?_
 exact (g16_l1_ok k a0 k) (maxI a1 0)
end
end Go.Proofs.Ytokcjgjgojlhbaa.Am
set_option maxRecDepth 100000
set_option linter.unusedVariables false
namespace Go.Proofs.Ytokcjgjgojlhbaa.Am
noncomputable section
open Go
def X33 : Fx Int := ⟨Try.prog, cx, Try.f33, fun r => .int .i64 r, 0, fun _ => H0, cxTi, cxOrd⟩
def g33p0 : Pt := nav [0] (bodyAt Try.f33)
def g33p1 : Pt := nav [0, 0, 0] g33p0
def g33p2 : Pt := nav [0, 0, 0, 0, 0] g33p1
def g33p3 : Pt := nav [0, 0, 0] g33p2
def g33p4 : Pt := nav [0, 0] g33p3
def g33p6 : Pt := nav [2, 0, 0, 0, 0] g33p4
def g33p7 : Pt := nav [0, 0, 0] g33p6
def g33p8 : Pt := nav [0, 0] g33p7
def g33_l4 (k : Nat)  (a0 : (List Nat)) (n : Nat) : Int → Option Int :=
 Nat.rec (motive := fun _ => Int → Option Int) (fun _ => none) (fun _ ih => fun (y4_0 : Int) => (nthS a0 (fwrap .i64 (y4_0 - 1))).bind fun x1_3 => (g30 k x1_3).bind fun x1_4 => if x1_4 then (ih (fwrap .i64 (y4_0 - 1))) else (some y4_0)) n
theorem g33_l4_s (k : Nat)  (a0 : (List Nat)) (n : Nat) (y4_0 : Int) : g33_l4 k a0 (n + 1) y4_0 = ((nthS a0 (fwrap .i64 (y4_0 - 1))).bind fun x1_3 => (g30 k x1_3).bind fun x1_4 => if x1_4 then ((g33_l4 k a0 n) (fwrap .i64 (y4_0 - 1))) else (some y4_0)) := rfl
theorem g33_l4_ok (k : Nat)  (a0 : (List Nat))  : ∀ (n : Nat) (y4_0 : Int), Ok X33 g33p6 [(0, .str a0), (3, .int .i64 y4_0)] (mkH []) (g33_l4 k a0 n y4_0)
 | 0, _ => ok_none
 | n + 1, y4_0 => by
  have ih := g33_l4_ok k a0 n
  rw [g33_l4_s]
  refine ok_ent (p' := nav [0] g33p6) (by kernel_rfl) ?_
  let E3 : Env := [(18, .int .i64 (fwrap .i64 (y4_0 - 1))), (17, .int .i64 y4_0), (16, .str a0), (0, .str a0), (3, .int .i64 y4_0)]
  refine ok_run 6 (p' := (atN 3 (ctl1 g33p7))) (env' := E3) (H' := (mkH [])) (by kernel_rfl) ?_
  refine ok_chk (fun (x1_3 : Int) => (.int .u8 x1_3, (mkH []))) (atN 4 (ctl1 g33p7)) (fun x1_3 => ((19, .int .u8 x1_3) :: E3)) (idxH (by kernel_rfl)) (fun _ => by kernel_rfl) (fun x1_3 hx1_3 => ?_)
  refine ok_call (fun (x1_4 : Bool) => .bool x1_4) (atN 5 (ctl1 g33p7)) (fun x1_4 => ((20, .bool x1_4) :: (19, .int .u8 x1_3) :: E3)) (fi := 30) (args := [.int .u8 x1_3]) (by kernel_rfl) (by kernel_rfl) (fun _ => by kernel_rfl) (fun r h => g30_ok k x1_3 r h) (fun _ => by kernel_rfl) (fun x1_4 hx1_4 => ?_)
  refine ok_run 1 (p' := g33p8) (env' := ((20, .bool x1_4) :: (19, .int .u8 x1_3) :: E3)) (H' := (mkH [])) (by kernel_rfl) ?_
  refine ok_split 20 (b := x1_4) (by kernel_rfl) (fun hb => ?_) (fun hb => ?_)
  ·let E4 : Env := ((3, .int .i64 (fwrap .i64 (y4_0 - 1))) :: (22, .int .i64 (fwrap .i64 (y4_0 - 1))) :: (21, .int .i64 y4_0) :: (20, .bool true) :: (20, .bool x1_4) :: (19, .int .u8 x1_3) :: E3)
   refine ok_run 8 (p' := g33p6) (env' := E4) (H' := (mkH [])) (by kernel_rfl) ?_
   refine ok_keep [0, 3] (env' := [(0, .str a0), (3, .int .i64 (fwrap .i64 (y4_0 - 1)))]) (by kernel_rfl) ?_
   exact ih (fwrap .i64 (y4_0 - 1))
  ·let E5 : Env := ((2, .int .i64 y4_0) :: (23, .int .i64 y4_0) :: (20, .bool false) :: (20, .bool x1_4) :: (19, .int .u8 x1_3) :: E3)
   refine ok_run 8 (p' := .fin) (env' := E5) (H' := (mkH [])) (by kernel_rfl) ?_
   exact ok_ret (r := y4_0) (xs := [.int .i64 y4_0]) (v := .int .i64 y4_0) (by kernel_rfl) (by kernel_rfl) (by kernel_rfl) (.pures (by kernel_rfl)) (by kernel_rfl)
def g33_l2 (k : Nat)  (a0 : (List Nat)) (n : Nat) : Int → Option Int :=
 Nat.rec (motive := fun _ => Int → Option Int) (fun _ => none) (fun _ ih => fun (y2_0 : Int) => jn (fun (z3 : Bool × Int) => if z3.1 then (ih (fwrap .i64 (z3.2 + 1))) else (g33_l4 k a0 k z3.2)) (fun j3 => if (decide (y2_0 < (a0.length : Int))) then ((nthS a0 y2_0).bind fun x0_7 => j3 (!decide (x0_7 = 10), y2_0)) else (j3 (false, y2_0)))) n
theorem g33_l2_s (k : Nat)  (a0 : (List Nat)) (n : Nat) (y2_0 : Int) : g33_l2 k a0 (n + 1) y2_0 = (jn (fun (z3 : Bool × Int) => if z3.1 then ((g33_l2 k a0 n) (fwrap .i64 (z3.2 + 1))) else (g33_l4 k a0 k z3.2)) (fun j3 => if (decide (y2_0 < (a0.length : Int))) then ((nthS a0 y2_0).bind fun x0_7 => j3 (!decide (x0_7 = 10), y2_0)) else (j3 (false, y2_0)))) := rfl
theorem g33_l2_ok (k : Nat)  (a0 : (List Nat))  : ∀ (n : Nat) (y2_0 : Int), Ok X33 g33p2 [(0, .str a0), (3, .int .i64 y2_0)] (mkH []) (g33_l2 k a0 n y2_0)
 | 0, _ => ok_none
 | n + 1, y2_0 => by
  have ih := g33_l2_ok k a0 n
  rw [g33_l2_s]
  refine ok_ent (p' := nav [0] g33p2) (by kernel_rfl) ?_
  let E1 : Env := [(8, .bool (decide (y2_0 < (a0.length : Int)))), (7, .bool (decide (y2_0 < (a0.length : Int)))), (6, .int .i64 (a0.length : Int)), (5, .str a0), (4, .int .i64 y2_0), (0, .str a0), (3, .int .i64 y2_0)]
  refine ok_run 8 (p' := (atN 5 (ctl1 g33p3))) (env' := E1) (H' := (mkH [])) (by kernel_rfl) ?_
  refine ok_jn (f := fun (z3 : Bool × Int) => if z3.1 then ((g33_l2 k a0 n) (fwrap .i64 (z3.2 + 1))) else (g33_l4 k a0 k z3.2)) g33p4 (fun (z3 : Bool × Int) => [(0, .str a0), (3, .int .i64 z3.2), (13, .bool z3.1)]) (fun (z3 : Bool × Int) => (mkH [])) (fun z3 => ?_) (fun j3 hj3 => ?_)
  ·refine ok_split 13 (b := z3.1) (by kernel_rfl) (fun hb => ?_) (fun hb => ?_)
   ·let E2 : Env := [(3, .int .i64 (fwrap .i64 (z3.2 + 1))), (15, .int .i64 (fwrap .i64 (z3.2 + 1))), (14, .int .i64 z3.2), (13, .bool true), (0, .str a0), (3, .int .i64 z3.2), (13, .bool z3.1)]
    refine ok_run 8 (p' := g33p2) (env' := E2) (H' := (mkH [])) (by kernel_rfl) ?_
    refine ok_keep [0, 3] (env' := [(0, .str a0), (3, .int .i64 (fwrap .i64 (z3.2 + 1)))]) (by kernel_rfl) ?_
    exact ih (fwrap .i64 (z3.2 + 1))
   ·refine ok_run 5 (p' := g33p6) (env' := [(13, .bool false), (0, .str a0), (3, .int .i64 z3.2), (13, .bool z3.1)]) (H' := (mkH [])) (by kernel_rfl) ?_
    refine ok_keep [0, 3] (env' := [(0, .str a0), (3, .int .i64 z3.2)]) (by kernel_rfl) ?_
    exact (g33_l4_ok k a0 k) z3.2
  ·refine ok_split 8 (b := decide (y2_0 < (a0.length : Int))) (by kernel_rfl) (fun hb => ?_) (fun hb => ?_)
   ·refine ok_run 2 (p' := (atN 7 (ctl1 g33p3))) (env' := ((10, .int .i64 y2_0) :: (9, .str a0) :: (8, .bool true) :: E1)) (H' := (mkH [])) (by kernel_rfl) ?_
    refine ok_chk (fun (x0_7 : Int) => (.int .u8 x0_7, (mkH []))) (atN 8 (ctl1 g33p3)) (fun x0_7 => ((11, .int .u8 x0_7) :: (10, .int .i64 y2_0) :: (9, .str a0) :: (8, .bool true) :: E1)) (idxH (by kernel_rfl)) (fun _ => by kernel_rfl) (fun x0_7 hx0_7 => ?_)
    let E6 : Env := ((13, .bool (!decide (x0_7 = 10))) :: (12, .bool (!decide (x0_7 = 10))) :: (11, .int .u8 x0_7) :: (10, .int .i64 y2_0) :: (9, .str a0) :: (8, .bool true) :: E1)
    refine ok_run 3 (p' := g33p4) (env' := E6) (H' := (mkH [])) (by kernel_rfl) ?_
    refine ok_keep [0, 3, 13] (env' := [(0, .str a0), (3, .int .i64 y2_0), (13, .bool (!decide (x0_7 = 10)))]) (by kernel_rfl) ?_
    exact hj3 (!decide (x0_7 = 10), y2_0)
   ·let E7 : Env := ((13, .bool false) :: (12, .tuple []) :: (11, .tuple []) :: (10, .tuple []) :: (9, .tuple []) :: (8, .bool false) :: E1)
    refine ok_run 6 (p' := g33p4) (env' := E7) (H' := (mkH [])) (by kernel_rfl) ?_
    refine ok_keep [0, 3, 13] (env' := [(0, .str a0), (3, .int .i64 y2_0), (13, .bool false)]) (by kernel_rfl) ?_
    exact hj3 (false, y2_0)
def g33 (k : Nat) (a0 : (List Nat)) : Option Int :=
 g33_l2 k a0 k 0
theorem g33_ok (k : Nat) (a0 : (List Nat)) (r : Int) (h : g33 k a0 = some r) : PureOk Try.prog 33 [.str a0] (.int .i64 r) := by
 refine pure_of X33 (fun _ => rfl) Try.func33 (by decide +kernel) (by kernel_rfl) (t := g33 k a0) ?_ h
 unfold g33
 refine ok_env (env' := [(0, .str a0)]) (by kernel_rfl) ?_
 refine ok_run 11 (p' := g33p2) (env' := [(3, .int .i64 0), (2, .int .i64 0), (0, .str a0)]) (H' := (mkH [])) (by kernel_rfl) ?_
 refine ok_keep [0, 3] (env' := [(0, .str a0), (3, .int .i64 0)]) (by kernel_rfl) ?_
 exact (g33_l2_ok k a0 k) 0
end
end Go.Proofs.Ytokcjgjgojlhbaa.Am
set_option maxRecDepth 100000
set_option linter.unusedVariables false
namespace Go.Proofs.Ytokcjgjgojlhbaa.Am
noncomputable section
open Go
def X51 : Fx Int := ⟨Try.prog, cx, Try.f51, fun r => .int .i64 r, 0, fun _ => H0, cxTi, cxOrd⟩
def g51p0 : Pt := nav [0] (bodyAt Try.f51)
def g51p1 : Pt := nav [0, 0, 0] g51p0
def g51p2 : Pt := nav [0, 0, 0, 0] g51p1
def g51p3 : Pt := nav [0, 0] g51p2
def g51 (k : Nat) (a0 : (List Nat)) (a1 : Int) : Option Int :=
 (g31 k a0 a1).bind fun x0_2 => jn (fun (z1 : Bool) => if z1 then (some (0 : Int)) else (some x0_2.2)) (fun j1 => if (decide (x0_2.1 < 32)) then (j1 true) else (j1 (decide (x0_2.1 = 127))))
theorem g51_ok (k : Nat) (a0 : (List Nat)) (a1 : Int) (r : Int) (h : g51 k a0 a1 = some r) : PureOk Try.prog 51 [.str a0, .int .i64 a1] (.int .i64 r) := by
 refine pure_of X51 (fun _ => rfl) Try.func51 (by decide +kernel) (by kernel_rfl) (t := g51 k a0 a1) ?_ h
 unfold g51
 refine ok_env (env' := [(0, .str a0), (1, .int .i64 a1)]) (by kernel_rfl) ?_
 let E1 : Env := [(9, .int .i64 a1), (8, .str a0), (4, .int .i64 0), (0, .str a0), (1, .int .i64 a1)]
 refine ok_run 8 (p' := (atN 2 (ctl1 g51p1))) (env' := E1) (H' := (mkH [])) (by kernel_rfl) ?_
 refine ok_call (fun (x0_2 : (Int × Int)) => .tuple [.int .i64 x0_2.1, .int .i64 x0_2.2]) (atN 3 (ctl1 g51p1)) (fun x0_2 => ((10, .tuple [.int .i64 x0_2.1, .int .i64 x0_2.2]) :: E1)) (fi := 31) (args := [.str a0, .int .i64 a1]) (by kernel_rfl) (by kernel_rfl) (fun _ => by kernel_rfl) (fun r h => g31_ok k a0 a1 r h) (fun _ => by kernel_rfl) (fun x0_2 hx0_2 => ?_)
 let E2 : Env := ((6, .int .i64 x0_2.2) :: (5, .int .i64 x0_2.1) :: (12, .int .i64 x0_2.2) :: (11, .int .i64 x0_2.1) :: (7, .tuple [.int .i64 x0_2.1, .int .i64 x0_2.2]) :: (10, .tuple [.int .i64 x0_2.1, .int .i64 x0_2.2]) :: E1)
 refine ok_run 8 (p' := g51p2) (env' := E2) (H' := (mkH [])) (by kernel_rfl) ?_
 refine ok_keep [5, 6] (env' := [(5, .int .i64 x0_2.1), (6, .int .i64 x0_2.2)]) (by kernel_rfl) ?_
 let E3 : Env := [(15, .bool (decide (x0_2.1 < 32))), (14, .bool (decide (x0_2.1 < 32))), (13, .int .i64 x0_2.1), (5, .int .i64 x0_2.1), (6, .int .i64 x0_2.2)]
 refine ok_run 4 (p' := (atN 3 (ctl1 g51p2))) (env' := E3) (H' := (mkH [])) (by kernel_rfl) ?_
 refine ok_jn (f := fun (z1 : Bool) => if z1 then (some (0 : Int)) else (some x0_2.2)) g51p3 (fun (z1 : Bool) => [(6, .int .i64 x0_2.2), (18, .bool z1)]) (fun (z1 : Bool) => (mkH [])) (fun z1 => ?_) (fun j1 hj1 => ?_)
 ·refine ok_split 18 (b := z1) (by kernel_rfl) (fun hb => ?_) (fun hb => ?_)
  ·refine ok_run 6 (p' := .fin) (env' := [(4, .int .i64 0), (18, .bool true), (6, .int .i64 x0_2.2), (18, .bool z1)]) (H' := (mkH [])) (by kernel_rfl) ?_
   exact ok_ret (r := (0 : Int)) (xs := [.int .i64 0]) (v := .int .i64 0) (by kernel_rfl) (by kernel_rfl) (by kernel_rfl) (.pures (by kernel_rfl)) (by kernel_rfl)
  ·let E4 : Env := [(4, .int .i64 x0_2.2), (19, .int .i64 x0_2.2), (18, .bool false), (6, .int .i64 x0_2.2), (18, .bool z1)]
   refine ok_run 8 (p' := .fin) (env' := E4) (H' := (mkH [])) (by kernel_rfl) ?_
   exact ok_ret (r := x0_2.2) (xs := [.int .i64 x0_2.2]) (v := .int .i64 x0_2.2) (by kernel_rfl) (by kernel_rfl) (by kernel_rfl) (.pures (by kernel_rfl)) (by kernel_rfl)
 ·refine ok_split 15 (b := decide (x0_2.1 < 32)) (by kernel_rfl) (fun hb => ?_) (fun hb => ?_)
  ·refine ok_run 4 (p' := g51p3) (env' := ((18, .bool true) :: (17, .tuple []) :: (16, .tuple []) :: (15, .bool true) :: E3)) (H' := (mkH [])) (by kernel_rfl) ?_
   refine ok_keep [6, 18] (env' := [(6, .int .i64 x0_2.2), (18, .bool true)]) (by kernel_rfl) ?_
   exact hj1 true
  ·refine ok_run 4 (p' := g51p3) (env' := ((18, .bool (decide (x0_2.1 = 127))) :: (17, .bool (decide (x0_2.1 = 127))) :: (16, .int .i64 x0_2.1) :: (15, .bool false) :: E3)) (H' := (mkH [])) (by kernel_rfl) ?_
   refine ok_keep [6, 18] (env' := [(6, .int .i64 x0_2.2), (18, .bool (decide (x0_2.1 = 127)))]) (by kernel_rfl) ?_
   exact hj1 (decide (x0_2.1 = 127))
end
end Go.Proofs.Ytokcjgjgojlhbaa.Am
set_option maxRecDepth 100000
set_option linter.unusedVariables false
namespace Go.Proofs.Ytokcjgjgojlhbaa.Am
noncomputable section
open Go
def X34 : Fx Int := ⟨Try.prog, cx, Try.f34, fun r => .int .i64 r, 0, fun _ => H0, cxTi, cxOrd⟩
def g34p0 : Pt := nav [0] (bodyAt Try.f34)
def g34p1 : Pt := nav [0, 0, 0, 0] g34p0
def g34p2 : Pt := nav [0, 0, 0, 0, 0] g34p1
def g34p3 : Pt := nav [0, 0, 0, 0, 0] g34p2
def g34p4 : Pt := nav [0, 0] g34p3
def g34p6 : Pt := nav [2, 0] g34p4
def g34p8 : Pt := nav [0] g34p6
def g34p10 : Pt := nav [2, 0] g34p8
def g34p11 : Pt := nav [0, 0] g34p10
def g34p12 : Pt := nav [1, 0] g34p11
def g34p13 : Pt := nav [2, 0, 0] g34p11
def g34p14 : Pt := nav [0, 0, 0] g34p12
def g34p15 : Pt := nav [0, 0, 0] g34p14
def g34p16 : Pt := nav [0, 0] g34p15
def g34_l4 (k : Nat)  (a0 : (List Nat)) (n : Nat) : Int → Option Int :=
 Nat.rec (motive := fun _ => Int → Option Int) (fun _ => none) (fun _ ih => fun (y4_0 : Int) => (g51 k a0 y4_0).bind fun x0_2 => if (decide (x0_2 = 0)) then (some (0 : Int)) else ((nthS a0 y4_0).bind fun x1_2 => (nthS a0 0).bind fun x1_4 => if (decide (x1_2 = x1_4)) then (some (fwrap .i64 (y4_0 + 1))) else ((nthS a0 y4_0).bind fun x2_2 => jn (fun (z5 : Int × Int) => ih (fwrap .i64 (z5.1 + z5.2))) (fun j5 => if (decide (x2_2 = 92)) then ((g51 k a0 (fwrap .i64 (y4_0 + 1))).bind fun x3_2 => if (decide (x3_2 = 0)) then (some (0 : Int)) else (j5 (fwrap .i64 (y4_0 + 1), x3_2))) else (j5 (y4_0, x0_2)))))) n
theorem g34_l4_s (k : Nat)  (a0 : (List Nat)) (n : Nat) (y4_0 : Int) : g34_l4 k a0 (n + 1) y4_0 = ((g51 k a0 y4_0).bind fun x0_2 => if (decide (x0_2 = 0)) then (some (0 : Int)) else ((nthS a0 y4_0).bind fun x1_2 => (nthS a0 0).bind fun x1_4 => if (decide (x1_2 = x1_4)) then (some (fwrap .i64 (y4_0 + 1))) else ((nthS a0 y4_0).bind fun x2_2 => jn (fun (z5 : Int × Int) => (g34_l4 k a0 n) (fwrap .i64 (z5.1 + z5.2))) (fun j5 => if (decide (x2_2 = 92)) then ((g51 k a0 (fwrap .i64 (y4_0 + 1))).bind fun x3_2 => if (decide (x3_2 = 0)) then (some (0 : Int)) else (j5 (fwrap .i64 (y4_0 + 1), x3_2))) else (j5 (y4_0, x0_2)))))) := rfl
theorem g34_l4_ok (k : Nat)  (a0 : (List Nat))  : ∀ (n : Nat) (y4_0 : Int), Ok X34 g34p2 [(0, .str a0), (3, .int .i64 y4_0)] (mkH []) (g34_l4 k a0 n y4_0)
 | 0, _ => ok_none
 | n + 1, y4_0 => by
  have ih := g34_l4_ok k a0 n
  rw [g34_l4_s]
  refine ok_run 3 (p' := (atN 2 (ctl1 g34p2))) (env' := [(6, .int .i64 y4_0), (5, .str a0), (0, .str a0), (3, .int .i64 y4_0)]) (H' := (mkH [])) (by kernel_rfl) ?_
  refine ok_call (fun (x0_2 : Int) => .int .i64 x0_2) (atN 3 (ctl1 g34p2)) (fun x0_2 => [(7, .int .i64 x0_2), (6, .int .i64 y4_0), (5, .str a0), (0, .str a0), (3, .int .i64 y4_0)]) (fi := 51) (args := [.str a0, .int .i64 y4_0]) (by kernel_rfl) (by kernel_rfl) (fun _ => by kernel_rfl) (fun r h => g51_ok k a0 y4_0 r h) (fun _ => by kernel_rfl) (fun x0_2 hx0_2 => ?_)
  let E1 : Env := [(8, .bool (decide (x0_2 = 0))), (10, .bool (decide (x0_2 = 0))), (9, .int .i64 x0_2), (4, .int .i64 x0_2), (7, .int .i64 x0_2), (6, .int .i64 y4_0), (5, .str a0), (0, .str a0), (3, .int .i64 y4_0)]
  refine ok_run 10 (p' := g34p4) (env' := E1) (H' := (mkH [])) (by kernel_rfl) ?_
  refine ok_split 8 (b := decide (x0_2 = 0)) (by kernel_rfl) (fun hb => ?_) (fun hb => ?_)
  ·refine ok_run 6 (p' := .fin) (env' := ((2, .int .i64 0) :: (8, .bool true) :: E1)) (H' := (mkH [])) (by kernel_rfl) ?_
   exact ok_ret (r := (0 : Int)) (xs := [.int .i64 0]) (v := .int .i64 0) (by kernel_rfl) (by kernel_rfl) (by kernel_rfl) (.pures (by kernel_rfl)) (by kernel_rfl)
  ·refine ok_run 2 (p' := g34p6) (env' := ((8, .bool false) :: E1)) (H' := (mkH [])) (by kernel_rfl) ?_
   refine ok_bind (fun x1_2 hx1_2 => ?_)
   refine ok_bind (fun x1_4 hx1_4 => ?_)
   let E2 : Env := [(13, .int .i64 y4_0), (12, .str a0), (8, .bool false), (8, .bool (decide (x0_2 = 0))), (10, .bool (decide (x0_2 = 0))), (9, .int .i64 x0_2), (4, .int .i64 x0_2), (7, .int .i64 x0_2), (6, .int .i64 y4_0), (5, .str a0), (0, .str a0), (3, .int .i64 y4_0)]
   let E3 : Env := ((11, .bool (decide (x1_2 = x1_4))) :: (17, .bool (decide (x1_2 = x1_4))) :: (16, .int .u8 x1_4) :: (15, .str a0) :: (14, .int .u8 x1_2) :: E2)
   refine ok_draw (p' := nav [0] g34p6) (env' := E3) (H' := (mkH [])) (hs := []) [(0, 0, 0), (0, 0, 0), (3, 0, 0), (0, 0, 0), (8, 0, 0), (31, 0, 0), (63, 0, 0)] (by kernel_rfl) (by kernel_rfl) (by kernel_rfl) (opsD_run 2 (l' := (opsAt g34p6).toList.drop 2) (env' := E2) (H' := (mkH [])) (hs := []) (by kernel_rfl) (opsD_chk (l' := (opsAt g34p6).toList.drop 3) (env' := ((14, .int .u8 x1_2) :: E2)) (hs := []) (x := x1_2) (fun (x1_2 : Int) => (.int .u8 x1_2, (mkH []))) (idxH (by kernel_rfl)) hx1_2 (by kernel_rfl) (opsD_run 1 (l' := (opsAt g34p6).toList.drop 4) (env' := ((15, .str a0) :: (14, .int .u8 x1_2) :: E2)) (H' := (mkH [])) (hs := []) (by kernel_rfl) (opsD_chk (l' := (opsAt g34p6).toList.drop 5) (env' := ((16, .int .u8 x1_4) :: (15, .str a0) :: (14, .int .u8 x1_2) :: E2)) (hs := []) (x := x1_4) (fun (x1_4 : Int) => (.int .u8 x1_4, (mkH []))) (idxH (by kernel_rfl)) hx1_4 (by kernel_rfl) (opsD_run 2 (l' := (opsAt g34p6).toList.drop 7) (env' := E3) (H' := (mkH [])) (hs := []) (by kernel_rfl) (.nil)))))) (by kernel_rfl) (by kernel_rfl) (by kernel_rfl) ?_
   refine ok_split 11 (b := decide (x1_2 = x1_4)) (by kernel_rfl) (fun hb => ?_) (fun hb => ?_)
   ·refine ok_run 8 (p' := .fin) (env' := ((2, .int .i64 (fwrap .i64 (y4_0 + 1))) :: (19, .int .i64 (fwrap .i64 (y4_0 + 1))) :: (18, .int .i64 y4_0) :: (11, .bool true) :: E3)) (H' := (mkH [])) (by kernel_rfl) ?_
    exact ok_ret (r := (fwrap .i64 (y4_0 + 1))) (xs := [.int .i64 (fwrap .i64 (y4_0 + 1))]) (v := .int .i64 (fwrap .i64 (y4_0 + 1))) (by kernel_rfl) (by kernel_rfl) (by kernel_rfl) (.pures (by kernel_rfl)) (by kernel_rfl)
   ·refine ok_run 5 (p' := (atN 2 (ctl1 g34p10))) (env' := ((22, .int .i64 y4_0) :: (21, .str a0) :: (11, .bool false) :: E3)) (H' := (mkH [])) (by kernel_rfl) ?_
    refine ok_chk (fun (x2_2 : Int) => (.int .u8 x2_2, (mkH []))) (atN 3 (ctl1 g34p10)) (fun x2_2 => ((23, .int .u8 x2_2) :: (22, .int .i64 y4_0) :: (21, .str a0) :: (11, .bool false) :: E3)) (idxH (by kernel_rfl)) (fun _ => by kernel_rfl) (fun x2_2 hx2_2 => ?_)
    let E4 : Env := ((20, .bool (decide (x2_2 = 92))) :: (24, .bool (decide (x2_2 = 92))) :: (23, .int .u8 x2_2) :: (22, .int .i64 y4_0) :: (21, .str a0) :: (11, .bool false) :: E3)
    refine ok_run 3 (p' := g34p11) (env' := E4) (H' := (mkH [])) (by kernel_rfl) ?_
    refine ok_keep [0, 3, 4, 20] (env' := [(0, .str a0), (3, .int .i64 y4_0), (4, .int .i64 x0_2), (20, .bool (decide (x2_2 = 92)))]) (by kernel_rfl) ?_
    refine ok_jn (f := fun (z5 : Int × Int) => (g34_l4 k a0 n) (fwrap .i64 (z5.1 + z5.2))) g34p13 (fun (z5 : Int × Int) => [(0, .str a0), (3, .int .i64 z5.1), (4, .int .i64 z5.2)]) (fun (z5 : Int × Int) => (mkH [])) (fun z5 => ?_) (fun j5 hj5 => ?_)
    ·let E5 : Env := [(3, .int .i64 (fwrap .i64 (z5.1 + z5.2))), (34, .int .i64 (fwrap .i64 (z5.1 + z5.2))), (33, .int .i64 z5.2), (32, .int .i64 z5.1), (0, .str a0), (3, .int .i64 z5.1), (4, .int .i64 z5.2)]
     refine ok_run 10 (p' := g34p2) (env' := E5) (H' := (mkH [])) (by kernel_rfl) ?_
     refine ok_keep [0, 3] (env' := [(0, .str a0), (3, .int .i64 (fwrap .i64 (z5.1 + z5.2)))]) (by kernel_rfl) ?_
     exact ih (fwrap .i64 (z5.1 + z5.2))
    ·refine ok_split 20 (b := decide (x2_2 = 92)) (by kernel_rfl) (fun hb => ?_) (fun hb => ?_)
     ·let E6 : Env := [(28, .int .i64 (fwrap .i64 (y4_0 + 1))), (27, .str a0), (3, .int .i64 (fwrap .i64 (y4_0 + 1))), (26, .int .i64 (fwrap .i64 (y4_0 + 1))), (25, .int .i64 y4_0), (20, .bool true), (0, .str a0), (3, .int .i64 y4_0), (4, .int .i64 x0_2), (20, .bool (decide (x2_2 = 92)))]
      refine ok_run 11 (p' := (atN 2 (ctl1 g34p14))) (env' := E6) (H' := (mkH [])) (by kernel_rfl) ?_
      refine ok_call (fun (x3_2 : Int) => .int .i64 x3_2) (atN 3 (ctl1 g34p14)) (fun x3_2 => ((29, .int .i64 x3_2) :: E6)) (fi := 51) (args := [.str a0, .int .i64 (fwrap .i64 (y4_0 + 1))]) (by kernel_rfl) (by kernel_rfl) (fun _ => by kernel_rfl) (fun r h => g51_ok k a0 (fwrap .i64 (y4_0 + 1)) r h) (fun _ => by kernel_rfl) (fun x3_2 hx3_2 => ?_)
      refine ok_run 3 (p' := g34p15) (env' := ((4, .int .i64 x3_2) :: (29, .int .i64 x3_2) :: E6)) (H' := (mkH [])) (by kernel_rfl) ?_
      refine ok_keep [0, 3, 4] (env' := [(0, .str a0), (3, .int .i64 (fwrap .i64 (y4_0 + 1))), (4, .int .i64 x3_2)]) (by kernel_rfl) ?_
      let E7 : Env := [(31, .bool (decide (x3_2 = 0))), (30, .int .i64 x3_2), (0, .str a0), (3, .int .i64 (fwrap .i64 (y4_0 + 1))), (4, .int .i64 x3_2)]
      refine ok_run 4 (p' := g34p16) (env' := E7) (H' := (mkH [])) (by kernel_rfl) ?_
      refine ok_split 31 (b := decide (x3_2 = 0)) (by kernel_rfl) (fun hb => ?_) (fun hb => ?_)
      ·refine ok_run 6 (p' := .fin) (env' := ((2, .int .i64 0) :: (31, .bool true) :: E7)) (H' := (mkH [])) (by kernel_rfl) ?_
       exact ok_ret (r := (0 : Int)) (xs := [.int .i64 0]) (v := .int .i64 0) (by kernel_rfl) (by kernel_rfl) (by kernel_rfl) (.pures (by kernel_rfl)) (by kernel_rfl)
      ·refine ok_run 3 (p' := g34p13) (env' := ((31, .bool false) :: E7)) (H' := (mkH [])) (by kernel_rfl) ?_
       refine ok_keep [0, 3, 4] (env' := [(0, .str a0), (3, .int .i64 (fwrap .i64 (y4_0 + 1))), (4, .int .i64 x3_2)]) (by kernel_rfl) ?_
       exact hj5 (fwrap .i64 (y4_0 + 1), x3_2)
     ·let E8 : Env := [(20, .bool false), (0, .str a0), (3, .int .i64 y4_0), (4, .int .i64 x0_2), (20, .bool (decide (x2_2 = 92)))]
      refine ok_run 3 (p' := g34p13) (env' := E8) (H' := (mkH [])) (by kernel_rfl) ?_
      refine ok_keep [0, 3, 4] (env' := [(0, .str a0), (3, .int .i64 y4_0), (4, .int .i64 x0_2)]) (by kernel_rfl) ?_
      exact hj5 (y4_0, x0_2)
def g34 (k : Nat) (a0 : (List Nat)) : Option Int :=
 g34_l4 k a0 k 1
theorem g34_ok (k : Nat) (a0 : (List Nat)) (r : Int) (h : g34 k a0 = some r) : PureOk Try.prog 34 [.str a0] (.int .i64 r) := by
 refine pure_of X34 (fun _ => rfl) Try.func34 (by decide +kernel) (by kernel_rfl) (t := g34 k a0) ?_ h
 unfold g34
 refine ok_env (env' := [(0, .str a0)]) (by kernel_rfl) ?_
 refine ok_run 12 (p' := g34p2) (env' := [(3, .int .i64 1), (2, .int .i64 0), (0, .str a0)]) (H' := (mkH [])) (by kernel_rfl) ?_
 refine ok_keep [0, 3] (env' := [(0, .str a0), (3, .int .i64 1)]) (by kernel_rfl) ?_
 exact (g34_l4_ok k a0 k) 1
end
end Go.Proofs.Ytokcjgjgojlhbaa.Am
set_option maxRecDepth 100000
set_option linter.unusedVariables false
namespace Go.Proofs.Ytokcjgjgojlhbaa.Am
noncomputable section
open Go
def X35 : Fx Int := ⟨Try.prog, cx, Try.f35, fun r => .int .i64 r, 0, fun _ => H0, cxTi, cxOrd⟩
def g35p0 : Pt := nav [0] (bodyAt Try.f35)
def g35p1 : Pt := nav [0, 0, 0, 0] g35p0
def g35p2 : Pt := nav [0, 0] g35p1
def g35p3 : Pt := nav [1, 0, 0] g35p2
def g35p4 : Pt := nav [2, 0, 0, 0] g35p2
def g35p5 : Pt := nav [0, 0, 0] g35p3
def g35p6 : Pt := nav [0, 0, 0] g35p4
def g35p7 : Pt := nav [0, 0] g35p5
def g35p8 : Pt := nav [0, 0] g35p6
def g35 (k : Nat) (a0 : (List Nat)) : Option Int :=
 jn (fun (z4 : Bool) => if z4 then ((g52 k a0 (1 : Int)).bind fun x1_1 => if (decide (0 < x1_1.2)) then (some (fwrap .i64 (x1_1.2 + 1))) else (some (0 : Int))) else ((g51 k a0 (1 : Int)).bind fun x2_1 => jn (fun (z5 : Bool) => if z5 then (some (fwrap .i64 (x2_1 + 1))) else (some (0 : Int))) (fun j5 => if (decide (0 < x2_1)) then ((nthS a0 1).bind fun x3_4 => j5 (!decide (x3_4 = 32))) else (j5 false)))) (fun j4 => if (decide (1 < (a0.length : Int))) then ((nthS a0 1).bind fun x0_5 => j4 (decide (x0_5 = 92))) else (j4 false))
theorem g35_ok (k : Nat) (a0 : (List Nat)) (r : Int) (h : g35 k a0 = some r) : PureOk Try.prog 35 [.str a0] (.int .i64 r) := by
 refine pure_of X35 (fun _ => rfl) Try.func35 (by decide +kernel) (by kernel_rfl) (t := g35 k a0) ?_ h
 unfold g35
 refine ok_env (env' := [(0, .str a0)]) (by kernel_rfl) ?_
 let E1 : Env := [(9, .bool (decide (1 < (a0.length : Int)))), (8, .bool (decide (1 < (a0.length : Int)))), (7, .int .i64 (a0.length : Int)), (6, .str a0), (2, .int .i64 0), (0, .str a0)]
 refine ok_run 11 (p' := (atN 4 (ctl1 g35p1))) (env' := E1) (H' := (mkH [])) (by kernel_rfl) ?_
 refine ok_jn (f := fun (z4 : Bool) => if z4 then ((g52 k a0 (1 : Int)).bind fun x1_1 => if (decide (0 < x1_1.2)) then (some (fwrap .i64 (x1_1.2 + 1))) else (some (0 : Int))) else ((g51 k a0 (1 : Int)).bind fun x2_1 => jn (fun (z5 : Bool) => if z5 then (some (fwrap .i64 (x2_1 + 1))) else (some (0 : Int))) (fun j5 => if (decide (0 < x2_1)) then ((nthS a0 1).bind fun x3_4 => j5 (!decide (x3_4 = 32))) else (j5 false)))) g35p2 (fun (z4 : Bool) => [(0, .str a0), (13, .bool z4)]) (fun (z4 : Bool) => (mkH [])) (fun z4 => ?_) (fun j4 hj4 => ?_)
 ·refine ok_split 13 (b := z4) (by kernel_rfl) (fun hb => ?_) (fun hb => ?_)
  ·refine ok_run 5 (p' := (atN 1 (ctl1 g35p3))) (env' := [(15, .str a0), (13, .bool true), (0, .str a0), (13, .bool z4)]) (H' := (mkH [])) (by kernel_rfl) ?_
   refine ok_call (fun (x1_1 : (Int × Int)) => .tuple [.int .i64 x1_1.1, .int .i64 x1_1.2]) (atN 2 (ctl1 g35p3)) (fun x1_1 => [(16, .tuple [.int .i64 x1_1.1, .int .i64 x1_1.2]), (15, .str a0), (13, .bool true), (0, .str a0), (13, .bool z4)]) (fi := 52) (args := [.str a0, .int .i64 1]) (by kernel_rfl) (by kernel_rfl) (fun _ => by kernel_rfl) (fun r h => g52_ok k a0 (1 : Int) r h) (fun _ => by kernel_rfl) (fun x1_1 hx1_1 => ?_)
   let E2 : Env := [(4, .int .i64 x1_1.2), (3, .int .i64 x1_1.1), (18, .int .i64 x1_1.2), (17, .int .i64 x1_1.1), (14, .tuple [.int .i64 x1_1.1, .int .i64 x1_1.2]), (16, .tuple [.int .i64 x1_1.1, .int .i64 x1_1.2]), (15, .str a0), (13, .bool true), (0, .str a0), (13, .bool z4)]
   refine ok_run 7 (p' := g35p5) (env' := E2) (H' := (mkH [])) (by kernel_rfl) ?_
   refine ok_keep [4] (env' := [(4, .int .i64 x1_1.2)]) (by kernel_rfl) ?_
   refine ok_run 4 (p' := g35p7) (env' := [(20, .bool (decide (0 < x1_1.2))), (19, .int .i64 x1_1.2), (4, .int .i64 x1_1.2)]) (H' := (mkH [])) (by kernel_rfl) ?_
   refine ok_split 20 (b := decide (0 < x1_1.2)) (by kernel_rfl) (fun hb => ?_) (fun hb => ?_)
   ·let E3 : Env := [(2, .int .i64 (fwrap .i64 (x1_1.2 + 1))), (22, .int .i64 (fwrap .i64 (x1_1.2 + 1))), (21, .int .i64 x1_1.2), (20, .bool true), (20, .bool (decide (0 < x1_1.2))), (19, .int .i64 x1_1.2), (4, .int .i64 x1_1.2)]
    refine ok_run 8 (p' := .fin) (env' := E3) (H' := (mkH [])) (by kernel_rfl) ?_
    exact ok_ret (r := (fwrap .i64 (x1_1.2 + 1))) (xs := [.int .i64 (fwrap .i64 (x1_1.2 + 1))]) (v := .int .i64 (fwrap .i64 (x1_1.2 + 1))) (by kernel_rfl) (by kernel_rfl) (by kernel_rfl) (.pures (by kernel_rfl)) (by kernel_rfl)
   ·let E4 : Env := [(2, .int .i64 0), (20, .bool false), (20, .bool (decide (0 < x1_1.2))), (19, .int .i64 x1_1.2), (4, .int .i64 x1_1.2)]
    refine ok_run 7 (p' := .fin) (env' := E4) (H' := (mkH [])) (by kernel_rfl) ?_
    exact ok_ret (r := (0 : Int)) (xs := [.int .i64 0]) (v := .int .i64 0) (by kernel_rfl) (by kernel_rfl) (by kernel_rfl) (.pures (by kernel_rfl)) (by kernel_rfl)
  ·refine ok_run 6 (p' := (atN 1 (ctl1 g35p4))) (env' := [(23, .str a0), (13, .bool false), (0, .str a0), (13, .bool z4)]) (H' := (mkH [])) (by kernel_rfl) ?_
   refine ok_call (fun (x2_1 : Int) => .int .i64 x2_1) (atN 2 (ctl1 g35p4)) (fun x2_1 => [(24, .int .i64 x2_1), (23, .str a0), (13, .bool false), (0, .str a0), (13, .bool z4)]) (fi := 51) (args := [.str a0, .int .i64 1]) (by kernel_rfl) (by kernel_rfl) (fun _ => by kernel_rfl) (fun r h => g51_ok k a0 (1 : Int) r h) (fun _ => by kernel_rfl) (fun x2_1 hx2_1 => ?_)
   let E5 : Env := [(27, .bool (decide (0 < x2_1))), (26, .bool (decide (0 < x2_1))), (25, .int .i64 x2_1), (5, .int .i64 x2_1), (24, .int .i64 x2_1), (23, .str a0), (13, .bool false), (0, .str a0), (13, .bool z4)]
   refine ok_run 7 (p' := (atN 3 (ctl1 g35p6))) (env' := E5) (H' := (mkH [])) (by kernel_rfl) ?_
   refine ok_jn (f := fun (z5 : Bool) => if z5 then (some (fwrap .i64 (x2_1 + 1))) else (some (0 : Int))) g35p8 (fun (z5 : Bool) => [(5, .int .i64 x2_1), (31, .bool z5)]) (fun (z5 : Bool) => (mkH [])) (fun z5 => ?_) (fun j5 hj5 => ?_)
   ·refine ok_split 31 (b := z5) (by kernel_rfl) (fun hb => ?_) (fun hb => ?_)
    ·let E6 : Env := [(2, .int .i64 (fwrap .i64 (x2_1 + 1))), (33, .int .i64 (fwrap .i64 (x2_1 + 1))), (32, .int .i64 x2_1), (31, .bool true), (5, .int .i64 x2_1), (31, .bool z5)]
     refine ok_run 8 (p' := .fin) (env' := E6) (H' := (mkH [])) (by kernel_rfl) ?_
     exact ok_ret (r := (fwrap .i64 (x2_1 + 1))) (xs := [.int .i64 (fwrap .i64 (x2_1 + 1))]) (v := .int .i64 (fwrap .i64 (x2_1 + 1))) (by kernel_rfl) (by kernel_rfl) (by kernel_rfl) (.pures (by kernel_rfl)) (by kernel_rfl)
    ·refine ok_run 7 (p' := .fin) (env' := [(2, .int .i64 0), (31, .bool false), (5, .int .i64 x2_1), (31, .bool z5)]) (H' := (mkH [])) (by kernel_rfl) ?_
     exact ok_ret (r := (0 : Int)) (xs := [.int .i64 0]) (v := .int .i64 0) (by kernel_rfl) (by kernel_rfl) (by kernel_rfl) (.pures (by kernel_rfl)) (by kernel_rfl)
   ·refine ok_split 27 (b := decide (0 < x2_1)) (by kernel_rfl) (fun hb => ?_) (fun hb => ?_)
    ·refine ok_run 1 (p' := (atN 4 (ctl1 g35p6))) (env' := ((28, .str a0) :: (27, .bool true) :: E5)) (H' := (mkH [])) (by kernel_rfl) ?_
     refine ok_chk (fun (x3_4 : Int) => (.int .u8 x3_4, (mkH []))) (atN 5 (ctl1 g35p6)) (fun x3_4 => ((29, .int .u8 x3_4) :: (28, .str a0) :: (27, .bool true) :: E5)) (idxH (by kernel_rfl)) (fun _ => by kernel_rfl) (fun x3_4 hx3_4 => ?_)
     let E7 : Env := ((31, .bool (!decide (x3_4 = 32))) :: (30, .bool (!decide (x3_4 = 32))) :: (29, .int .u8 x3_4) :: (28, .str a0) :: (27, .bool true) :: E5)
     refine ok_run 3 (p' := g35p8) (env' := E7) (H' := (mkH [])) (by kernel_rfl) ?_
     refine ok_keep [5, 31] (env' := [(5, .int .i64 x2_1), (31, .bool (!decide (x3_4 = 32)))]) (by kernel_rfl) ?_
     exact hj5 (!decide (x3_4 = 32))
    ·let E8 : Env := ((31, .bool false) :: (30, .tuple []) :: (29, .tuple []) :: (28, .tuple []) :: (27, .bool false) :: E5)
     refine ok_run 5 (p' := g35p8) (env' := E8) (H' := (mkH [])) (by kernel_rfl) ?_
     refine ok_keep [5, 31] (env' := [(5, .int .i64 x2_1), (31, .bool false)]) (by kernel_rfl) ?_
     exact hj5 false
 ·refine ok_split 9 (b := decide (1 < (a0.length : Int))) (by kernel_rfl) (fun hb => ?_) (fun hb => ?_)
  ·refine ok_run 1 (p' := (atN 5 (ctl1 g35p1))) (env' := ((10, .str a0) :: (9, .bool true) :: E1)) (H' := (mkH [])) (by kernel_rfl) ?_
   refine ok_chk (fun (x0_5 : Int) => (.int .u8 x0_5, (mkH []))) (atN 6 (ctl1 g35p1)) (fun x0_5 => ((11, .int .u8 x0_5) :: (10, .str a0) :: (9, .bool true) :: E1)) (idxH (by kernel_rfl)) (fun _ => by kernel_rfl) (fun x0_5 hx0_5 => ?_)
   let E9 : Env := ((13, .bool (decide (x0_5 = 92))) :: (12, .bool (decide (x0_5 = 92))) :: (11, .int .u8 x0_5) :: (10, .str a0) :: (9, .bool true) :: E1)
   refine ok_run 3 (p' := g35p2) (env' := E9) (H' := (mkH [])) (by kernel_rfl) ?_
   refine ok_keep [0, 13] (env' := [(0, .str a0), (13, .bool (decide (x0_5 = 92)))]) (by kernel_rfl) ?_
   exact hj4 (decide (x0_5 = 92))
  ·let E10 : Env := ((13, .bool false) :: (12, .tuple []) :: (11, .tuple []) :: (10, .tuple []) :: (9, .bool false) :: E1)
   refine ok_run 5 (p' := g35p2) (env' := E10) (H' := (mkH [])) (by kernel_rfl) ?_
   refine ok_keep [0, 13] (env' := [(0, .str a0), (13, .bool false)]) (by kernel_rfl) ?_
   exact hj4 false
end
end Go.Proofs.Ytokcjgjgojlhbaa.Am
set_option maxRecDepth 100000
set_option linter.unusedVariables false
namespace Go.Proofs.Ytokcjgjgojlhbaa.Am
noncomputable section
open Go
def X39 : Fx Int := ⟨Try.prog, cx, Try.f39, fun r => .int .i64 r, 0, fun _ => H0, cxTi, cxOrd⟩
def g39p0 : Pt := nav [0] (bodyAt Try.f39)
def g39p1 : Pt := nav [0, 0, 0] g39p0
def g39p2 : Pt := nav [0, 0, 0, 0, 0] g39p1
def g39p3 : Pt := nav [0, 0, 0] g39p2
def g39p4 : Pt := nav [0, 0] g39p3
def g39_l1 (k : Nat)  (a0 : (List Nat)) (n : Nat) : Int → Option Int :=
 Nat.rec (motive := fun _ => Int → Option Int) (fun _ => none) (fun _ ih => fun (y1_0 : Int) => jn (fun (z2 : Bool × Int) => if z2.1 then (ih (fwrap .i64 (z2.2 + 1))) else (some z2.2)) (fun j2 => if (decide (y1_0 < (a0.length : Int))) then ((nthS a0 y1_0).bind fun x0_7 => (g58 k x0_7).bind fun x0_8 => j2 (x0_8, y1_0)) else (j2 (false, y1_0)))) n
theorem g39_l1_s (k : Nat)  (a0 : (List Nat)) (n : Nat) (y1_0 : Int) : g39_l1 k a0 (n + 1) y1_0 = (jn (fun (z2 : Bool × Int) => if z2.1 then ((g39_l1 k a0 n) (fwrap .i64 (z2.2 + 1))) else (some z2.2)) (fun j2 => if (decide (y1_0 < (a0.length : Int))) then ((nthS a0 y1_0).bind fun x0_7 => (g58 k x0_7).bind fun x0_8 => j2 (x0_8, y1_0)) else (j2 (false, y1_0)))) := rfl
theorem g39_l1_ok (k : Nat)  (a0 : (List Nat))  : ∀ (n : Nat) (y1_0 : Int), Ok X39 g39p2 [(0, .str a0), (3, .int .i64 y1_0)] (mkH []) (g39_l1 k a0 n y1_0)
 | 0, _ => ok_none
 | n + 1, y1_0 => by
  have ih := g39_l1_ok k a0 n
  rw [g39_l1_s]
  refine ok_ent (p' := nav [0] g39p2) (by kernel_rfl) ?_
  let E1 : Env := [(8, .bool (decide (y1_0 < (a0.length : Int)))), (7, .bool (decide (y1_0 < (a0.length : Int)))), (6, .int .i64 (a0.length : Int)), (5, .str a0), (4, .int .i64 y1_0), (0, .str a0), (3, .int .i64 y1_0)]
  refine ok_run 8 (p' := (atN 5 (ctl1 g39p3))) (env' := E1) (H' := (mkH [])) (by kernel_rfl) ?_
  refine ok_jn (f := fun (z2 : Bool × Int) => if z2.1 then ((g39_l1 k a0 n) (fwrap .i64 (z2.2 + 1))) else (some z2.2)) g39p4 (fun (z2 : Bool × Int) => [(0, .str a0), (3, .int .i64 z2.2), (13, .bool z2.1)]) (fun (z2 : Bool × Int) => (mkH [])) (fun z2 => ?_) (fun j2 hj2 => ?_)
  ·refine ok_split 13 (b := z2.1) (by kernel_rfl) (fun hb => ?_) (fun hb => ?_)
   ·let E2 : Env := [(3, .int .i64 (fwrap .i64 (z2.2 + 1))), (15, .int .i64 (fwrap .i64 (z2.2 + 1))), (14, .int .i64 z2.2), (13, .bool true), (0, .str a0), (3, .int .i64 z2.2), (13, .bool z2.1)]
    refine ok_run 8 (p' := g39p2) (env' := E2) (H' := (mkH [])) (by kernel_rfl) ?_
    refine ok_keep [0, 3] (env' := [(0, .str a0), (3, .int .i64 (fwrap .i64 (z2.2 + 1)))]) (by kernel_rfl) ?_
    exact ih (fwrap .i64 (z2.2 + 1))
   ·let E3 : Env := [(2, .int .i64 z2.2), (16, .int .i64 z2.2), (13, .bool false), (0, .str a0), (3, .int .i64 z2.2), (13, .bool z2.1)]
    refine ok_run 8 (p' := .fin) (env' := E3) (H' := (mkH [])) (by kernel_rfl) ?_
    exact ok_ret (r := z2.2) (xs := [.int .i64 z2.2]) (v := .int .i64 z2.2) (by kernel_rfl) (by kernel_rfl) (by kernel_rfl) (.pures (by kernel_rfl)) (by kernel_rfl)
  ·refine ok_split 8 (b := decide (y1_0 < (a0.length : Int))) (by kernel_rfl) (fun hb => ?_) (fun hb => ?_)
   ·refine ok_run 2 (p' := (atN 7 (ctl1 g39p3))) (env' := ((10, .int .i64 y1_0) :: (9, .str a0) :: (8, .bool true) :: E1)) (H' := (mkH [])) (by kernel_rfl) ?_
    refine ok_chk (fun (x0_7 : Int) => (.int .u8 x0_7, (mkH []))) (atN 8 (ctl1 g39p3)) (fun x0_7 => ((11, .int .u8 x0_7) :: (10, .int .i64 y1_0) :: (9, .str a0) :: (8, .bool true) :: E1)) (idxH (by kernel_rfl)) (fun _ => by kernel_rfl) (fun x0_7 hx0_7 => ?_)
    refine ok_call (fun (x0_8 : Bool) => .bool x0_8) (atN 9 (ctl1 g39p3)) (fun x0_8 => ((12, .bool x0_8) :: (11, .int .u8 x0_7) :: (10, .int .i64 y1_0) :: (9, .str a0) :: (8, .bool true) :: E1)) (fi := 58) (args := [.int .u8 x0_7]) (by kernel_rfl) (by kernel_rfl) (fun _ => by kernel_rfl) (fun r h => g58_ok k x0_7 r h) (fun _ => by kernel_rfl) (fun x0_8 hx0_8 => ?_)
    let E4 : Env := ((13, .bool x0_8) :: (12, .bool x0_8) :: (11, .int .u8 x0_7) :: (10, .int .i64 y1_0) :: (9, .str a0) :: (8, .bool true) :: E1)
    refine ok_run 2 (p' := g39p4) (env' := E4) (H' := (mkH [])) (by kernel_rfl) ?_
    refine ok_keep [0, 3, 13] (env' := [(0, .str a0), (3, .int .i64 y1_0), (13, .bool x0_8)]) (by kernel_rfl) ?_
    exact hj2 (x0_8, y1_0)
   ·let E5 : Env := ((13, .bool false) :: (12, .tuple []) :: (11, .tuple []) :: (10, .tuple []) :: (9, .tuple []) :: (8, .bool false) :: E1)
    refine ok_run 6 (p' := g39p4) (env' := E5) (H' := (mkH [])) (by kernel_rfl) ?_
    refine ok_keep [0, 3, 13] (env' := [(0, .str a0), (3, .int .i64 y1_0), (13, .bool false)]) (by kernel_rfl) ?_
    exact hj2 (false, y1_0)
def g39 (k : Nat) (a0 : (List Nat)) : Option Int :=
 g39_l1 k a0 k 0
theorem g39_ok (k : Nat) (a0 : (List Nat)) (r : Int) (h : g39 k a0 = some r) : PureOk Try.prog 39 [.str a0] (.int .i64 r) := by
 refine pure_of X39 (fun _ => rfl) Try.func39 (by decide +kernel) (by kernel_rfl) (t := g39 k a0) ?_ h
 unfold g39
 refine ok_env (env' := [(0, .str a0)]) (by kernel_rfl) ?_
 refine ok_run 11 (p' := g39p2) (env' := [(3, .int .i64 0), (2, .int .i64 0), (0, .str a0)]) (H' := (mkH [])) (by kernel_rfl) ?_
 refine ok_keep [0, 3] (env' := [(0, .str a0), (3, .int .i64 0)]) (by kernel_rfl) ?_
 exact (g39_l1_ok k a0 k) 0
end
end Go.Proofs.Ytokcjgjgojlhbaa.Am
set_option maxRecDepth 100000
set_option linter.unusedVariables false
namespace Go.Proofs.Ytokcjgjgojlhbaa.Am
noncomputable section
open Go
def X53 : Fx Int := ⟨Try.prog, cx, Try.f53, fun r => .int .u8 r, 0, fun _ => H0, cxTi, cxOrd⟩
def g53p0 : Pt := nav [0] (bodyAt Try.f53)
def g53p1 : Pt := nav [0, 0, 0, 0] g53p0
def g53p2 : Pt := nav [0, 0] g53p1
def g53p4 : Pt := nav [2, 0, 0] g53p2
def g53 (k : Nat) (a0 : (List Nat)) (a1 : Int) : Option Int :=
 if (decide ((a0.length : Int) ≤ a1)) then (some (0 : Int)) else ((nthS a0 a1).bind fun x0_2 => some x0_2)
theorem g53_ok (k : Nat) (a0 : (List Nat)) (a1 : Int) (r : Int) (h : g53 k a0 a1 = some r) : PureOk Try.prog 53 [.str a0, .int .i64 a1] (.int .u8 r) := by
 refine pure_of X53 (fun _ => rfl) Try.func53 (by decide +kernel) (by kernel_rfl) (t := g53 k a0 a1) ?_ h
 unfold g53
 refine ok_env (env' := [(0, .str a0), (1, .int .i64 a1)]) (by kernel_rfl) ?_
 let E1 : Env := [(8, .bool (decide ((a0.length : Int) ≤ a1))), (7, .int .i64 (a0.length : Int)), (6, .str a0), (5, .int .i64 a1), (4, .int .u8 0), (0, .str a0), (1, .int .i64 a1)]
 refine ok_run 12 (p' := g53p2) (env' := E1) (H' := (mkH [])) (by kernel_rfl) ?_
 refine ok_split 8 (b := decide ((a0.length : Int) ≤ a1)) (by kernel_rfl) (fun hb => ?_) (fun hb => ?_)
 ·refine ok_run 6 (p' := .fin) (env' := ((4, .int .u8 0) :: (8, .bool true) :: E1)) (H' := (mkH [])) (by kernel_rfl) ?_
  exact ok_ret (r := (0 : Int)) (xs := [.int .u8 0]) (v := .int .u8 0) (by kernel_rfl) (by kernel_rfl) (by kernel_rfl) (.pures (by kernel_rfl)) (by kernel_rfl)
 ·refine ok_run 6 (p' := (atN 2 (ctl1 g53p4))) (env' := ((10, .int .i64 a1) :: (9, .str a0) :: (8, .bool false) :: E1)) (H' := (mkH [])) (by kernel_rfl) ?_
  refine ok_chk (fun (x0_2 : Int) => (.int .u8 x0_2, (mkH []))) (atN 3 (ctl1 g53p4)) (fun x0_2 => ((11, .int .u8 x0_2) :: (10, .int .i64 a1) :: (9, .str a0) :: (8, .bool false) :: E1)) (idxH (by kernel_rfl)) (fun _ => by kernel_rfl) (fun x0_2 hx0_2 => ?_)
  let E2 : Env := ((4, .int .u8 x0_2) :: (11, .int .u8 x0_2) :: (10, .int .i64 a1) :: (9, .str a0) :: (8, .bool false) :: E1)
  refine ok_run 3 (p' := .fin) (env' := E2) (H' := (mkH [])) (by kernel_rfl) ?_
  exact ok_ret (r := x0_2) (xs := [.int .u8 x0_2]) (v := .int .u8 x0_2) (by kernel_rfl) (by kernel_rfl) (by kernel_rfl) (.pures (by kernel_rfl)) (by kernel_rfl)
end
end Go.Proofs.Ytokcjgjgojlhbaa.Am
set_option maxRecDepth 100000
set_option linter.unusedVariables false
namespace Go.Proofs.Ytokcjgjgojlhbaa.Am
noncomputable section
open Go
def X36 : Fx Int := ⟨Try.prog, cx, Try.f36, fun r => .int .i64 r, 0, fun _ => H0, cxTi, cxOrd⟩
def g36p0 : Pt := nav [0] (bodyAt Try.f36)
def g36p1 : Pt := nav [0, 0, 0] g36p0
def g36p2 : Pt := nav [0, 0, 0, 0] g36p1
def g36p3 : Pt := nav [0, 0] g36p2
def g36p5 : Pt := nav [2, 0, 0, 0] g36p3
def g36p6 : Pt := nav [0, 0, 0] g36p5
def g36p7 : Pt := nav [0, 0] g36p6
def g36p9 : Pt := nav [2, 0, 0] g36p7
def g36 (k : Nat) (a0 : (List Nat)) : Option Int :=
 jn (fun (z3 : Bool) => jn (fun (z4 : Int) => (g53 k a0 z4).bind fun x1_2 => (g37 k x1_2).bind fun x1_3 => jn (fun (z5 : Bool) => if z5 then (some (0 : Int)) else ((subL a0 (some z4) none).bind fun x2_3 => (g39 k x2_3).bind fun x2_4 => some (fwrap .i64 (z4 + x2_4)))) (fun j5 => if (!decide (x1_3 = 1)) then (j5 (!decide (x1_3 = 2))) else (j5 false))) (fun j4 => if z3 then (j4 2) else (j4 1))) (fun j3 => if (decide (1 < (a0.length : Int))) then ((nthS a0 1).bind fun x0_5 => j3 (decide (x0_5 = 63))) else (j3 false))
theorem g36_ok (k : Nat) (a0 : (List Nat)) (r : Int) (h : g36 k a0 = some r) : PureOk Try.prog 36 [.str a0] (.int .i64 r) := by
 refine pure_of X36 (fun _ => rfl) Try.func36 (by decide +kernel) (by kernel_rfl) (t := g36 k a0) ?_ h
 unfold g36
 refine ok_env (env' := [(0, .str a0)]) (by kernel_rfl) ?_
 let E1 : Env := [(8, .bool (decide (1 < (a0.length : Int)))), (7, .bool (decide (1 < (a0.length : Int)))), (6, .int .i64 (a0.length : Int)), (5, .str a0), (3, .int .i64 1), (2, .int .i64 0), (0, .str a0)]
 refine ok_run 15 (p' := (atN 4 (ctl1 g36p2))) (env' := E1) (H' := (mkH [])) (by kernel_rfl) ?_
 refine ok_jn (f := fun (z3 : Bool) => jn (fun (z4 : Int) => (g53 k a0 z4).bind fun x1_2 => (g37 k x1_2).bind fun x1_3 => jn (fun (z5 : Bool) => if z5 then (some (0 : Int)) else ((subL a0 (some z4) none).bind fun x2_3 => (g39 k x2_3).bind fun x2_4 => some (fwrap .i64 (z4 + x2_4)))) (fun j5 => if (!decide (x1_3 = 1)) then (j5 (!decide (x1_3 = 2))) else (j5 false))) (fun j4 => if z3 then (j4 2) else (j4 1))) g36p3 (fun (z3 : Bool) => [(0, .str a0), (3, .int .i64 1), (12, .bool z3)]) (fun (z3 : Bool) => (mkH [])) (fun z3 => ?_) (fun j3 hj3 => ?_)
 ·refine ok_jn (f := fun (z4 : Int) => (g53 k a0 z4).bind fun x1_2 => (g37 k x1_2).bind fun x1_3 => jn (fun (z5 : Bool) => if z5 then (some (0 : Int)) else ((subL a0 (some z4) none).bind fun x2_3 => (g39 k x2_3).bind fun x2_4 => some (fwrap .i64 (z4 + x2_4)))) (fun j5 => if (!decide (x1_3 = 1)) then (j5 (!decide (x1_3 = 2))) else (j5 false))) g36p5 (fun (z4 : Int) => [(0, .str a0), (3, .int .i64 z4)]) (fun (z4 : Int) => (mkH [])) (fun z4 => ?_) (fun j4 hj4 => ?_)
  ·refine ok_run 3 (p' := (atN 2 (ctl1 g36p5))) (env' := [(14, .int .i64 z4), (13, .str a0), (0, .str a0), (3, .int .i64 z4)]) (H' := (mkH [])) (by kernel_rfl) ?_
   refine ok_call (fun (x1_2 : Int) => .int .u8 x1_2) (atN 3 (ctl1 g36p5)) (fun x1_2 => [(15, .int .u8 x1_2), (14, .int .i64 z4), (13, .str a0), (0, .str a0), (3, .int .i64 z4)]) (fi := 53) (args := [.str a0, .int .i64 z4]) (by kernel_rfl) (by kernel_rfl) (fun _ => by kernel_rfl) (fun r h => g53_ok k a0 z4 r h) (fun _ => by kernel_rfl) (fun x1_2 hx1_2 => ?_)
   refine ok_call (fun (x1_3 : Int) => .int .i64 x1_3) (atN 4 (ctl1 g36p5)) (fun x1_3 => [(16, .int .i64 x1_3), (15, .int .u8 x1_2), (14, .int .i64 z4), (13, .str a0), (0, .str a0), (3, .int .i64 z4)]) (fi := 37) (args := [.int .u8 x1_2]) (by kernel_rfl) (by kernel_rfl) (fun _ => by kernel_rfl) (fun r h => g37_ok k x1_2 r h) (fun _ => by kernel_rfl) (fun x1_3 hx1_3 => ?_)
   let E2 : Env := [(19, .bool (!decide (x1_3 = 1))), (18, .bool (!decide (x1_3 = 1))), (17, .int .i64 x1_3), (4, .int .i64 x1_3), (16, .int .i64 x1_3), (15, .int .u8 x1_2), (14, .int .i64 z4), (13, .str a0), (0, .str a0), (3, .int .i64 z4)]
   refine ok_run 7 (p' := (atN 3 (ctl1 g36p6))) (env' := E2) (H' := (mkH [])) (by kernel_rfl) ?_
   refine ok_jn (f := fun (z5 : Bool) => if z5 then (some (0 : Int)) else ((subL a0 (some z4) none).bind fun x2_3 => (g39 k x2_3).bind fun x2_4 => some (fwrap .i64 (z4 + x2_4)))) g36p7 (fun (z5 : Bool) => [(0, .str a0), (3, .int .i64 z4), (22, .bool z5)]) (fun (z5 : Bool) => (mkH [])) (fun z5 => ?_) (fun j5 hj5 => ?_)
   ·refine ok_split 22 (b := z5) (by kernel_rfl) (fun hb => ?_) (fun hb => ?_)
    ·let E3 : Env := [(2, .int .i64 0), (22, .bool true), (0, .str a0), (3, .int .i64 z4), (22, .bool z5)]
     refine ok_run 6 (p' := .fin) (env' := E3) (H' := (mkH [])) (by kernel_rfl) ?_
     exact ok_ret (r := (0 : Int)) (xs := [.int .i64 0]) (v := .int .i64 0) (by kernel_rfl) (by kernel_rfl) (by kernel_rfl) (.pures (by kernel_rfl)) (by kernel_rfl)
    ·let E4 : Env := [(25, .int .i64 z4), (24, .str a0), (23, .int .i64 z4), (22, .bool false), (0, .str a0), (3, .int .i64 z4), (22, .bool z5)]
     refine ok_run 7 (p' := (atN 3 (ctl1 g36p9))) (env' := E4) (H' := (mkH [])) (by kernel_rfl) ?_
     refine ok_chk (fun (x2_3 : (List Nat)) => (.str x2_3, (mkH []))) (atN 4 (ctl1 g36p9)) (fun x2_3 => ((26, .str x2_3) :: E4)) (subH (some z4) none (by kernel_rfl)) (fun _ => by kernel_rfl) (fun x2_3 hx2_3 => ?_)
     refine ok_call (fun (x2_4 : Int) => .int .i64 x2_4) (atN 5 (ctl1 g36p9)) (fun x2_4 => ((27, .int .i64 x2_4) :: (26, .str x2_3) :: E4)) (fi := 39) (args := [.str x2_3]) (by kernel_rfl) (by kernel_rfl) (fun _ => by kernel_rfl) (fun r h => g39_ok k x2_3 r h) (fun _ => by kernel_rfl) (fun x2_4 hx2_4 => ?_)
     refine ok_run 4 (p' := .fin) (env' := ((2, .int .i64 (fwrap .i64 (z4 + x2_4))) :: (28, .int .i64 (fwrap .i64 (z4 + x2_4))) :: (27, .int .i64 x2_4) :: (26, .str x2_3) :: E4)) (H' := (mkH [])) (by kernel_rfl) ?_
     exact ok_ret (r := (fwrap .i64 (z4 + x2_4))) (xs := [.int .i64 (fwrap .i64 (z4 + x2_4))]) (v := .int .i64 (fwrap .i64 (z4 + x2_4))) (by kernel_rfl) (by kernel_rfl) (by kernel_rfl) (.pures (by kernel_rfl)) (by kernel_rfl)
   ·refine ok_split 19 (b := !decide (x1_3 = 1)) (by kernel_rfl) (fun hb => ?_) (fun hb => ?_)
    ·refine ok_run 4 (p' := g36p7) (env' := ((22, .bool (!decide (x1_3 = 2))) :: (21, .bool (!decide (x1_3 = 2))) :: (20, .int .i64 x1_3) :: (19, .bool true) :: E2)) (H' := (mkH [])) (by kernel_rfl) ?_
     refine ok_keep [0, 3, 22] (env' := [(0, .str a0), (3, .int .i64 z4), (22, .bool (!decide (x1_3 = 2)))]) (by kernel_rfl) ?_
     exact hj5 (!decide (x1_3 = 2))
    ·refine ok_run 4 (p' := g36p7) (env' := ((22, .bool false) :: (21, .tuple []) :: (20, .tuple []) :: (19, .bool false) :: E2)) (H' := (mkH [])) (by kernel_rfl) ?_
     refine ok_keep [0, 3, 22] (env' := [(0, .str a0), (3, .int .i64 z4), (22, .bool false)]) (by kernel_rfl) ?_
     exact hj5 false
  ·refine ok_split 12 (b := z3) (by kernel_rfl) (fun hb => ?_) (fun hb => ?_)
   ·let E5 : Env := [(3, .int .i64 2), (12, .bool true), (0, .str a0), (3, .int .i64 1), (12, .bool z3)]
    refine ok_run 6 (p' := g36p5) (env' := E5) (H' := (mkH [])) (by kernel_rfl) ?_
    refine ok_keep [0, 3] (env' := [(0, .str a0), (3, .int .i64 2)]) (by kernel_rfl) ?_
    exact hj4 2
   ·refine ok_run 4 (p' := g36p5) (env' := [(12, .bool false), (0, .str a0), (3, .int .i64 1), (12, .bool z3)]) (H' := (mkH [])) (by kernel_rfl) ?_
    refine ok_keep [0, 3] (env' := [(0, .str a0), (3, .int .i64 1)]) (by kernel_rfl) ?_
    exact hj4 1
 ·refine ok_split 8 (b := decide (1 < (a0.length : Int))) (by kernel_rfl) (fun hb => ?_) (fun hb => ?_)
  ·refine ok_run 1 (p' := (atN 5 (ctl1 g36p2))) (env' := ((9, .str a0) :: (8, .bool true) :: E1)) (H' := (mkH [])) (by kernel_rfl) ?_
   refine ok_chk (fun (x0_5 : Int) => (.int .u8 x0_5, (mkH []))) (atN 6 (ctl1 g36p2)) (fun x0_5 => ((10, .int .u8 x0_5) :: (9, .str a0) :: (8, .bool true) :: E1)) (idxH (by kernel_rfl)) (fun _ => by kernel_rfl) (fun x0_5 hx0_5 => ?_)
   let E6 : Env := ((12, .bool (decide (x0_5 = 63))) :: (11, .bool (decide (x0_5 = 63))) :: (10, .int .u8 x0_5) :: (9, .str a0) :: (8, .bool true) :: E1)
   refine ok_run 3 (p' := g36p3) (env' := E6) (H' := (mkH [])) (by kernel_rfl) ?_
   refine ok_keep [0, 3, 12] (env' := [(0, .str a0), (3, .int .i64 1), (12, .bool (decide (x0_5 = 63)))]) (by kernel_rfl) ?_
   exact hj3 (decide (x0_5 = 63))
  ·let E7 : Env := ((12, .bool false) :: (11, .tuple []) :: (10, .tuple []) :: (9, .tuple []) :: (8, .bool false) :: E1)
   refine ok_run 5 (p' := g36p3) (env' := E7) (H' := (mkH [])) (by kernel_rfl) ?_
   refine ok_keep [0, 3, 12] (env' := [(0, .str a0), (3, .int .i64 1), (12, .bool false)]) (by kernel_rfl) ?_
   exact hj3 false
end
end Go.Proofs.Ytokcjgjgojlhbaa.Am
set_option maxRecDepth 100000
set_option linter.unusedVariables false
namespace Go.Proofs.Ytokcjgjgojlhbaa.Am
noncomputable section
open Go
def X38 : Fx (Int × Int) := ⟨Try.prog, cx, Try.f38, fun r => .tuple [.int .i64 r.1, .int .i64 r.2], 0, fun _ => H0, cxTi, cxOrd⟩
def g38p0 : Pt := nav [0] (bodyAt Try.f38)
def g38p1 : Pt := nav [0, 0, 0] g38p0
def g38p2 : Pt := nav [0, 0, 0, 0] g38p1
def g38p3 : Pt := nav [0, 0] g38p2
def g38p4 : Pt := nav [1, 0] g38p3
def g38p5 : Pt := nav [2, 0, 0, 0] g38p3
def g38p6 : Pt := nav [0, 0, 0] g38p4
def g38p7 : Pt := nav [0, 0] g38p5
def g38p8 : Pt := nav [0, 0, 0] g38p6
def g38p11 : Pt := nav [0, 0] g38p8
def g38 (k : Nat) (a0 : (List Nat)) : Option (Int × Int) :=
 (g55 k a0).bind fun x0_1 => jn (fun (z6 : Int × Int) => jn (fun (z7 : Bool) => if z7 then (some ((0 : Int), (0 : Int))) else (some (z6.2, z6.1))) (fun j7 => if (decide (z6.2 < (a0.length : Int))) then ((nthS a0 z6.2).bind fun x4_7 => (g58 k x4_7).bind fun x4_8 => j7 x4_8) else (j7 false))) (fun j6 => if (decide (x0_1 = 0)) then ((g56 k a0).bind fun x1_1 => (g57 k a0).bind fun x2_1 => jn (fun (z5 : Bool) => if z5 then (some ((0 : Int), (0 : Int))) else (j6 (3, x1_1))) (fun j5 => if (decide (x1_1 < (a0.length : Int))) then ((nthS a0 x1_1).bind fun x3_7 => if (decide (x3_7 = 35)) then (if (decide (x2_1.1 = 0)) then (j5 true) else (j5 (decide (x1_1 < x2_1.1)))) else (j5 false)) else (j5 false))) else (j6 (4, x0_1)))
theorem g38_ok (k : Nat) (a0 : (List Nat)) (r : (Int × Int)) (h : g38 k a0 = some r) : PureOk Try.prog 38 [.str a0] (.tuple [.int .i64 r.1, .int .i64 r.2]) := by
 refine pure_of X38 (fun _ => rfl) Try.func38 (by decide +kernel) (by kernel_rfl) (t := g38 k a0) ?_ h
 unfold g38
 refine ok_env (env' := [(0, .str a0)]) (by kernel_rfl) ?_
 refine ok_run 8 (p' := (atN 1 (ctl1 g38p1))) (env' := [(8, .str a0), (3, .int .i64 0), (2, .int .i64 0), (0, .str a0)]) (H' := (mkH [])) (by kernel_rfl) ?_
 refine ok_call (fun (x0_1 : Int) => .int .i64 x0_1) (atN 2 (ctl1 g38p1)) (fun x0_1 => [(9, .int .i64 x0_1), (8, .str a0), (3, .int .i64 0), (2, .int .i64 0), (0, .str a0)]) (fi := 55) (args := [.str a0]) (by kernel_rfl) (by kernel_rfl) (fun _ => by kernel_rfl) (fun r h => g55_ok k a0 r h) (fun _ => by kernel_rfl) (fun x0_1 hx0_1 => ?_)
 let E1 : Env := [(11, .bool (decide (x0_1 = 0))), (10, .int .i64 x0_1), (5, .int .i64 x0_1), (4, .int .i64 4), (9, .int .i64 x0_1), (8, .str a0), (3, .int .i64 0), (2, .int .i64 0), (0, .str a0)]
 refine ok_run 9 (p' := g38p3) (env' := E1) (H' := (mkH [])) (by kernel_rfl) ?_
 refine ok_jn (f := fun (z6 : Int × Int) => jn (fun (z7 : Bool) => if z7 then (some ((0 : Int), (0 : Int))) else (some (z6.2, z6.1))) (fun j7 => if (decide (z6.2 < (a0.length : Int))) then ((nthS a0 z6.2).bind fun x4_7 => (g58 k x4_7).bind fun x4_8 => j7 x4_8) else (j7 false))) g38p5 (fun (z6 : Int × Int) => [(0, .str a0), (4, .int .i64 z6.1), (5, .int .i64 z6.2)]) (fun (z6 : Int × Int) => (mkH [])) (fun z6 => ?_) (fun j6 hj6 => ?_)
 ·let E2 : Env := [(42, .bool (decide (z6.2 < (a0.length : Int)))), (41, .bool (decide (z6.2 < (a0.length : Int)))), (40, .int .i64 (a0.length : Int)), (39, .str a0), (38, .int .i64 z6.2), (0, .str a0), (4, .int .i64 z6.1), (5, .int .i64 z6.2)]
  refine ok_run 6 (p' := (atN 5 (ctl1 g38p5))) (env' := E2) (H' := (mkH [])) (by kernel_rfl) ?_
  refine ok_jn (f := fun (z7 : Bool) => if z7 then (some ((0 : Int), (0 : Int))) else (some (z6.2, z6.1))) g38p7 (fun (z7 : Bool) => [(4, .int .i64 z6.1), (5, .int .i64 z6.2), (47, .bool z7)]) (fun (z7 : Bool) => (mkH [])) (fun z7 => ?_) (fun j7 hj7 => ?_)
  ·refine ok_split 47 (b := z7) (by kernel_rfl) (fun hb => ?_) (fun hb => ?_)
   ·let E3 : Env := [(3, .int .i64 0), (2, .int .i64 0), (47, .bool true), (4, .int .i64 z6.1), (5, .int .i64 z6.2), (47, .bool z7)]
    refine ok_run 7 (p' := .fin) (env' := E3) (H' := (mkH [])) (by kernel_rfl) ?_
    exact ok_ret (r := ((0 : Int), (0 : Int))) (xs := [.int .i64 0, .int .i64 0]) (v := .tuple [.int .i64 0, .int .i64 0]) (by kernel_rfl) (by kernel_rfl) (by kernel_rfl) (.pures (by kernel_rfl)) (by kernel_rfl)
   ·let E4 : Env := [(3, .int .i64 z6.1), (2, .int .i64 z6.2), (49, .int .i64 z6.1), (48, .int .i64 z6.2), (47, .bool false), (4, .int .i64 z6.1), (5, .int .i64 z6.2), (47, .bool z7)]
    refine ok_run 10 (p' := .fin) (env' := E4) (H' := (mkH [])) (by kernel_rfl) ?_
    exact ok_ret (r := (z6.2, z6.1)) (xs := [.int .i64 z6.2, .int .i64 z6.1]) (v := .tuple [.int .i64 z6.2, .int .i64 z6.1]) (by kernel_rfl) (by kernel_rfl) (by kernel_rfl) (.pures (by kernel_rfl)) (by kernel_rfl)
  ·refine ok_split 42 (b := decide (z6.2 < (a0.length : Int))) (by kernel_rfl) (fun hb => ?_) (fun hb => ?_)
   ·refine ok_run 2 (p' := (atN 7 (ctl1 g38p5))) (env' := ((44, .int .i64 z6.2) :: (43, .str a0) :: (42, .bool true) :: E2)) (H' := (mkH [])) (by kernel_rfl) ?_
    refine ok_chk (fun (x4_7 : Int) => (.int .u8 x4_7, (mkH []))) (atN 8 (ctl1 g38p5)) (fun x4_7 => ((45, .int .u8 x4_7) :: (44, .int .i64 z6.2) :: (43, .str a0) :: (42, .bool true) :: E2)) (idxH (by kernel_rfl)) (fun _ => by kernel_rfl) (fun x4_7 hx4_7 => ?_)
    refine ok_call (fun (x4_8 : Bool) => .bool x4_8) (atN 9 (ctl1 g38p5)) (fun x4_8 => ((46, .bool x4_8) :: (45, .int .u8 x4_7) :: (44, .int .i64 z6.2) :: (43, .str a0) :: (42, .bool true) :: E2)) (fi := 58) (args := [.int .u8 x4_7]) (by kernel_rfl) (by kernel_rfl) (fun _ => by kernel_rfl) (fun r h => g58_ok k x4_7 r h) (fun _ => by kernel_rfl) (fun x4_8 hx4_8 => ?_)
    let E5 : Env := ((47, .bool x4_8) :: (46, .bool x4_8) :: (45, .int .u8 x4_7) :: (44, .int .i64 z6.2) :: (43, .str a0) :: (42, .bool true) :: E2)
    refine ok_run 2 (p' := g38p7) (env' := E5) (H' := (mkH [])) (by kernel_rfl) ?_
    refine ok_keep [4, 5, 47] (env' := [(4, .int .i64 z6.1), (5, .int .i64 z6.2), (47, .bool x4_8)]) (by kernel_rfl) ?_
    exact hj7 x4_8
   ·let E6 : Env := ((47, .bool false) :: (46, .tuple []) :: (45, .tuple []) :: (44, .tuple []) :: (43, .tuple []) :: (42, .bool false) :: E2)
    refine ok_run 6 (p' := g38p7) (env' := E6) (H' := (mkH [])) (by kernel_rfl) ?_
    refine ok_keep [4, 5, 47] (env' := [(4, .int .i64 z6.1), (5, .int .i64 z6.2), (47, .bool false)]) (by kernel_rfl) ?_
    exact hj7 false
 ·refine ok_split 11 (b := decide (x0_1 = 0)) (by kernel_rfl) (fun hb => ?_) (fun hb => ?_)
  ·refine ok_run 4 (p' := (atN 1 (ctl1 g38p4))) (env' := ((12, .str a0) :: (11, .bool true) :: E1)) (H' := (mkH [])) (by kernel_rfl) ?_
   refine ok_call (fun (x1_1 : Int) => .int .i64 x1_1) (atN 2 (ctl1 g38p4)) (fun x1_1 => ((13, .int .i64 x1_1) :: (12, .str a0) :: (11, .bool true) :: E1)) (fi := 56) (args := [.str a0]) (by kernel_rfl) (by kernel_rfl) (fun _ => by kernel_rfl) (fun r h => g56_ok k a0 r h) (fun _ => by kernel_rfl) (fun x1_1 hx1_1 => ?_)
   let E7 : Env := ((5, .int .i64 x1_1) :: (4, .int .i64 3) :: (13, .int .i64 x1_1) :: (12, .str a0) :: (11, .bool true) :: E1)
   refine ok_run 4 (p' := g38p6) (env' := E7) (H' := (mkH [])) (by kernel_rfl) ?_
   refine ok_keep [0, 4, 5] (env' := [(0, .str a0), (4, .int .i64 3), (5, .int .i64 x1_1)]) (by kernel_rfl) ?_
   refine ok_run 2 (p' := (atN 1 (ctl1 g38p6))) (env' := [(15, .str a0), (0, .str a0), (4, .int .i64 3), (5, .int .i64 x1_1)]) (H' := (mkH [])) (by kernel_rfl) ?_
   refine ok_call (fun (x2_1 : (Int × Int)) => .tuple [.int .i64 x2_1.1, .int .i64 x2_1.2]) (atN 2 (ctl1 g38p6)) (fun x2_1 => [(16, .tuple [.int .i64 x2_1.1, .int .i64 x2_1.2]), (15, .str a0), (0, .str a0), (4, .int .i64 3), (5, .int .i64 x1_1)]) (fi := 57) (args := [.str a0]) (by kernel_rfl) (by kernel_rfl) (fun _ => by kernel_rfl) (fun r h => g57_ok k a0 r h) (fun _ => by kernel_rfl) (fun x2_1 hx2_1 => ?_)
   let E8 : Env := [(23, .bool (decide (x1_1 < (a0.length : Int)))), (22, .bool (decide (x1_1 < (a0.length : Int)))), (21, .int .i64 (a0.length : Int)), (20, .str a0), (19, .int .i64 x1_1), (7, .int .i64 x2_1.2), (6, .int .i64 x2_1.1), (18, .int .i64 x2_1.2), (17, .int .i64 x2_1.1), (14, .tuple [.int .i64 x2_1.1, .int .i64 x2_1.2]), (16, .tuple [.int .i64 x2_1.1, .int .i64 x2_1.2]), (15, .str a0), (0, .str a0), (4, .int .i64 3), (5, .int .i64 x1_1)]
   refine ok_run 13 (p' := (atN 5 (ctl1 g38p8))) (env' := E8) (H' := (mkH [])) (by kernel_rfl) ?_
   refine ok_jn (f := fun (z5 : Bool) => if z5 then (some ((0 : Int), (0 : Int))) else (j6 (3, x1_1))) g38p11 (fun (z5 : Bool) => [(0, .str a0), (4, .int .i64 3), (5, .int .i64 x1_1), (37, .bool z5)]) (fun (z5 : Bool) => (mkH [])) (fun z5 => ?_) (fun j5 hj5 => ?_)
   ·refine ok_split 37 (b := z5) (by kernel_rfl) (fun hb => ?_) (fun hb => ?_)
    ·let E9 : Env := [(3, .int .i64 0), (2, .int .i64 0), (37, .bool true), (0, .str a0), (4, .int .i64 3), (5, .int .i64 x1_1), (37, .bool z5)]
     refine ok_run 7 (p' := .fin) (env' := E9) (H' := (mkH [])) (by kernel_rfl) ?_
     exact ok_ret (r := ((0 : Int), (0 : Int))) (xs := [.int .i64 0, .int .i64 0]) (v := .tuple [.int .i64 0, .int .i64 0]) (by kernel_rfl) (by kernel_rfl) (by kernel_rfl) (.pures (by kernel_rfl)) (by kernel_rfl)
    ·let E10 : Env := [(37, .bool false), (0, .str a0), (4, .int .i64 3), (5, .int .i64 x1_1), (37, .bool z5)]
     refine ok_run 4 (p' := g38p5) (env' := E10) (H' := (mkH [])) (by kernel_rfl) ?_
     refine ok_keep [0, 4, 5] (env' := [(0, .str a0), (4, .int .i64 3), (5, .int .i64 x1_1)]) (by kernel_rfl) ?_
     exact hj6 (3, x1_1)
   ·refine ok_split 23 (b := decide (x1_1 < (a0.length : Int))) (by kernel_rfl) (fun hb => ?_) (fun hb => ?_)
    ·refine ok_run 2 (p' := (atN 7 (ctl1 g38p8))) (env' := ((25, .int .i64 x1_1) :: (24, .str a0) :: (23, .bool true) :: E8)) (H' := (mkH [])) (by kernel_rfl) ?_
     refine ok_chk (fun (x3_7 : Int) => (.int .u8 x3_7, (mkH []))) (atN 8 (ctl1 g38p8)) (fun x3_7 => ((26, .int .u8 x3_7) :: (25, .int .i64 x1_1) :: (24, .str a0) :: (23, .bool true) :: E8)) (idxH (by kernel_rfl)) (fun _ => by kernel_rfl) (fun x3_7 hx3_7 => ?_)
     let E11 : Env := ((29, .bool (decide (x3_7 = 35))) :: (28, .bool (decide (x3_7 = 35))) :: (27, .bool (decide (x3_7 = 35))) :: (26, .int .u8 x3_7) :: (25, .int .i64 x1_1) :: (24, .str a0) :: (23, .bool true) :: E8)
     refine ok_run 3 (p' := (atN 11 (ctl1 g38p8))) (env' := E11) (H' := (mkH [])) (by kernel_rfl) ?_
     refine ok_split 29 (b := decide (x3_7 = 35)) (by kernel_rfl) (fun hb => ?_) (fun hb => ?_)
     ·refine ok_run 3 (p' := (atN 14 (ctl1 g38p8))) (env' := ((32, .bool (decide (x2_1.1 = 0))) :: (31, .bool (decide (x2_1.1 = 0))) :: (30, .int .i64 x2_1.1) :: (29, .bool true) :: E11)) (H' := (mkH [])) (by kernel_rfl) ?_
      refine ok_split 32 (b := decide (x2_1.1 = 0)) (by kernel_rfl) (fun hb => ?_) (fun hb => ?_)
      ·let E12 : Env := ((37, .bool true) :: (36, .bool true) :: (35, .tuple []) :: (34, .tuple []) :: (33, .tuple []) :: (32, .bool true) :: (32, .bool (decide (x2_1.1 = 0))) :: (31, .bool (decide (x2_1.1 = 0))) :: (30, .int .i64 x2_1.1) :: (29, .bool true) :: E11)
       refine ok_run 6 (p' := g38p11) (env' := E12) (H' := (mkH [])) (by kernel_rfl) ?_
       refine ok_keep [0, 4, 5, 37] (env' := [(0, .str a0), (4, .int .i64 3), (5, .int .i64 x1_1), (37, .bool true)]) (by kernel_rfl) ?_
       exact hj5 true
      ·let E13 : Env := ((37, .bool (decide (x1_1 < x2_1.1))) :: (36, .bool (decide (x1_1 < x2_1.1))) :: (35, .bool (decide (x1_1 < x2_1.1))) :: (34, .int .i64 x2_1.1) :: (33, .int .i64 x1_1) :: (32, .bool false) :: (32, .bool (decide (x2_1.1 = 0))) :: (31, .bool (decide (x2_1.1 = 0))) :: (30, .int .i64 x2_1.1) :: (29, .bool true) :: E11)
       refine ok_run 6 (p' := g38p11) (env' := E13) (H' := (mkH [])) (by kernel_rfl) ?_
       refine ok_keep [0, 4, 5, 37] (env' := [(0, .str a0), (4, .int .i64 3), (5, .int .i64 x1_1), (37, .bool (decide (x1_1 < x2_1.1)))]) (by kernel_rfl) ?_
       exact hj5 (decide (x1_1 < x2_1.1))
     ·let E14 : Env := ((37, .bool false) :: (36, .tuple []) :: (35, .tuple []) :: (34, .tuple []) :: (33, .tuple []) :: (32, .tuple []) :: (31, .tuple []) :: (30, .tuple []) :: (29, .bool false) :: E11)
      refine ok_run 9 (p' := g38p11) (env' := E14) (H' := (mkH [])) (by kernel_rfl) ?_
      refine ok_keep [0, 4, 5, 37] (env' := [(0, .str a0), (4, .int .i64 3), (5, .int .i64 x1_1), (37, .bool false)]) (by kernel_rfl) ?_
      exact hj5 false
    ·let E15 : Env := ((37, .bool false) :: (36, .tuple []) :: (35, .tuple []) :: (34, .tuple []) :: (33, .tuple []) :: (32, .tuple []) :: (31, .tuple []) :: (30, .tuple []) :: (29, .bool false) :: (28, .bool false) :: (27, .tuple []) :: (26, .tuple []) :: (25, .tuple []) :: (24, .tuple []) :: (23, .bool false) :: E8)
     refine ok_run 15 (p' := g38p11) (env' := E15) (H' := (mkH [])) (by kernel_rfl) ?_
     refine ok_keep [0, 4, 5, 37] (env' := [(0, .str a0), (4, .int .i64 3), (5, .int .i64 x1_1), (37, .bool false)]) (by kernel_rfl) ?_
     exact hj5 false
  ·refine ok_run 4 (p' := g38p5) (env' := ((11, .bool false) :: E1)) (H' := (mkH [])) (by kernel_rfl) ?_
   refine ok_keep [0, 4, 5] (env' := [(0, .str a0), (4, .int .i64 4), (5, .int .i64 x0_1)]) (by kernel_rfl) ?_
   exact hj6 (4, x0_1)
end
end Go.Proofs.Ytokcjgjgojlhbaa.Am
set_option maxRecDepth 100000
set_option linter.unusedVariables false
namespace Go.Proofs.Ytokcjgjgojlhbaa.Am
noncomputable section
open Go
def X20 : Fx (Int × Int) := ⟨Try.prog, cx, Try.f20, fun r => .tuple [.int .i64 r.1, .int .i64 r.2], 0, fun _ => H0, cxTi, cxOrd⟩
def g20p0 : Pt := nav [0] (bodyAt Try.f20)
def g20p1 : Pt := nav [0, 0, 0] g20p0
def g20p2 : Pt := nav [0, 0, 0, 0, 0] g20p1
def g20p3 : Pt := nav [0, 0] g20p2
def g20p4 : Pt := nav [1, 0] g20p3
def g20p5 : Pt := nav [2, 0] g20p3
def g20p7 : Pt := nav [0, 0] g20p5
def g20p9 : Pt := nav [2, 0] g20p7
def g20p10 : Pt := nav [0, 0] g20p9
def g20p11 : Pt := nav [1, 0] g20p10
def g20p12 : Pt := nav [2, 0] g20p10
def g20p13 : Pt := nav [0, 0] g20p12
def g20p14 : Pt := nav [1, 0] g20p13
def g20p15 : Pt := nav [2, 0] g20p13
def g20p16 : Pt := nav [0, 0] g20p15
def g20p17 : Pt := nav [1, 0] g20p16
def g20p18 : Pt := nav [2, 0] g20p16
def g20p19 : Pt := nav [0, 0] g20p18
def g20p20 : Pt := nav [1, 0] g20p19
def g20p21 : Pt := nav [2, 0, 0, 0] g20p19
def g20p22 : Pt := nav [0, 0, 0] g20p21
def g20p23 : Pt := nav [0, 0, 0, 0] g20p22
def g20p24 : Pt := nav [0, 0] g20p23
def g20p25 : Pt := nav [1, 0] g20p24
def g20p26 : Pt := nav [2, 0, 0] g20p24
def g20p27 : Pt := nav [0, 0] g20p26
def g20p28 : Pt := nav [1, 0] g20p27
def g20p30 : Pt := nav [1, 0] g20p28
def g20p31 : Pt := nav [2, 0, 0] g20p28
def g20p32 : Pt := nav [0, 0, 0, 0] g20p30
def g20p33 : Pt := nav [0, 0] g20p32
def g20p35 : Pt := nav [2, 0, 0] g20p33
def g20 (k : Nat) (a0 : (List Nat)) : Option (Int × Int) :=
 (nthS a0 0).bind fun x0_1 => if (decide (x0_1 = 37)) then ((g33 k a0).bind fun x1_1 => some (x1_1, (11 : Int))) else (jn (fun (z12 : Bool) => if z12 then (some ((1 : Int), (10 : Int))) else (if (decide (x0_1 = 39)) then ((g34 k a0).bind fun x3_1 => some (x3_1, (1 : Int))) else (if (decide (x0_1 = 34)) then ((g34 k a0).bind fun x4_1 => some (x4_1, (6 : Int))) else (if (decide (x0_1 = 36)) then ((g35 k a0).bind fun x5_1 => some (x5_1, (5 : Int))) else (if (decide (x0_1 = 63)) then ((g36 k a0).bind fun x6_1 => some (x6_1, (7 : Int))) else ((g37 k x0_1).bind fun x7_1 => if (decide (x7_1 = 3)) then ((g38 k a0).bind fun x8_1 => some (x8_1.1, x8_1.2)) else (jn (fun (z13 : Bool) => if z13 then ((g39 k a0).bind fun x9_1 => (subL a0 none (some x9_1)).bind fun x10_2 => (g40 k x10_2).bind fun x10_3 => jn (fun (z14 : Int) => some (x9_1, z14)) (fun j14 => if x10_3 then (j14 8) else (j14 x7_1))) else ((g41 k a0 (0 : Int)).bind fun x11_1 => some (x11_1, (9 : Int)))) (fun j13 => if (decide (x7_1 = 1)) then (j13 true) else (j13 (decide (x7_1 = 2))))))))))) (fun j12 => if (decide (x0_1 = 46)) then (if (decide ((a0.length : Int) = 1)) then (j12 true) else ((nthS a0 1).bind fun x2_8 => (g30 k x2_8).bind fun x2_9 => if x2_9 then (j12 true) else ((nthS a0 1).bind fun x2_13 => j12 (decide (x2_13 = 37))))) else (j12 false)))
theorem g20_ok (k : Nat) (a0 : (List Nat)) (r : (Int × Int)) (h : g20 k a0 = some r) : PureOk Try.prog 20 [.str a0] (.tuple [.int .i64 r.1, .int .i64 r.2]) := by
 refine pure_of X20 (fun _ => rfl) Try.func20 (by decide +kernel) (by kernel_rfl) (t := g20 k a0) ?_ h
 unfold g20
 refine ok_env (env' := [(0, .str a0)]) (by kernel_rfl) ?_
 refine ok_run 8 (p' := (atN 1 (ctl1 g20p1))) (env' := [(7, .str a0), (3, .int .i64 0), (2, .int .i64 0), (0, .str a0)]) (H' := (mkH [])) (by kernel_rfl) ?_
 refine ok_chk (fun (x0_1 : Int) => (.int .u8 x0_1, (mkH []))) (atN 2 (ctl1 g20p1)) (fun x0_1 => [(8, .int .u8 x0_1), (7, .str a0), (3, .int .i64 0), (2, .int .i64 0), (0, .str a0)]) (idxH (by kernel_rfl)) (fun _ => by kernel_rfl) (fun x0_1 hx0_1 => ?_)
 let E1 : Env := [(9, .bool (decide (x0_1 = 37))), (11, .bool (decide (x0_1 = 37))), (10, .int .u8 x0_1), (4, .int .u8 x0_1), (8, .int .u8 x0_1), (7, .str a0), (3, .int .i64 0), (2, .int .i64 0), (0, .str a0)]
 refine ok_run 10 (p' := g20p3) (env' := E1) (H' := (mkH [])) (by kernel_rfl) ?_
 refine ok_split 9 (b := decide (x0_1 = 37)) (by kernel_rfl) (fun hb => ?_) (fun hb => ?_)
 ·refine ok_run 4 (p' := (atN 1 (ctl1 g20p4))) (env' := ((12, .str a0) :: (9, .bool true) :: E1)) (H' := (mkH [])) (by kernel_rfl) ?_
  refine ok_call (fun (x1_1 : Int) => .int .i64 x1_1) (atN 2 (ctl1 g20p4)) (fun x1_1 => ((13, .int .i64 x1_1) :: (12, .str a0) :: (9, .bool true) :: E1)) (fi := 33) (args := [.str a0]) (by kernel_rfl) (by kernel_rfl) (fun _ => by kernel_rfl) (fun r h => g33_ok k a0 r h) (fun _ => by kernel_rfl) (fun x1_1 hx1_1 => ?_)
  let E2 : Env := ((3, .int .i64 11) :: (2, .int .i64 x1_1) :: (13, .int .i64 x1_1) :: (12, .str a0) :: (9, .bool true) :: E1)
  refine ok_run 4 (p' := .fin) (env' := E2) (H' := (mkH [])) (by kernel_rfl) ?_
  exact ok_ret (r := (x1_1, (11 : Int))) (xs := [.int .i64 x1_1, .int .i64 11]) (v := .tuple [.int .i64 x1_1, .int .i64 11]) (by kernel_rfl) (by kernel_rfl) (by kernel_rfl) (.pures (by kernel_rfl)) (by kernel_rfl)
 ·refine ok_run 6 (p' := (atN 3 (ctl1 g20p5))) (env' := ((17, .bool (decide (x0_1 = 46))) :: (16, .bool (decide (x0_1 = 46))) :: (15, .int .u8 x0_1) :: (9, .bool false) :: E1)) (H' := (mkH [])) (by kernel_rfl) ?_
  refine ok_jn (f := fun (z12 : Bool) => if z12 then (some ((1 : Int), (10 : Int))) else (if (decide (x0_1 = 39)) then ((g34 k a0).bind fun x3_1 => some (x3_1, (1 : Int))) else (if (decide (x0_1 = 34)) then ((g34 k a0).bind fun x4_1 => some (x4_1, (6 : Int))) else (if (decide (x0_1 = 36)) then ((g35 k a0).bind fun x5_1 => some (x5_1, (5 : Int))) else (if (decide (x0_1 = 63)) then ((g36 k a0).bind fun x6_1 => some (x6_1, (7 : Int))) else ((g37 k x0_1).bind fun x7_1 => if (decide (x7_1 = 3)) then ((g38 k a0).bind fun x8_1 => some (x8_1.1, x8_1.2)) else (jn (fun (z13 : Bool) => if z13 then ((g39 k a0).bind fun x9_1 => (subL a0 none (some x9_1)).bind fun x10_2 => (g40 k x10_2).bind fun x10_3 => jn (fun (z14 : Int) => some (x9_1, z14)) (fun j14 => if x10_3 then (j14 8) else (j14 x7_1))) else ((g41 k a0 (0 : Int)).bind fun x11_1 => some (x11_1, (9 : Int)))) (fun j13 => if (decide (x7_1 = 1)) then (j13 true) else (j13 (decide (x7_1 = 2))))))))))) g20p7 (fun (z12 : Bool) => [(0, .str a0), (4, .int .u8 x0_1), (14, .bool z12)]) (fun (z12 : Bool) => (mkH [])) (fun z12 => ?_) (fun j12 hj12 => ?_)
  ·refine ok_split 14 (b := z12) (by kernel_rfl) (fun hb => ?_) (fun hb => ?_)
   ·let E3 : Env := [(3, .int .i64 10), (2, .int .i64 1), (14, .bool true), (0, .str a0), (4, .int .u8 x0_1), (14, .bool z12)]
    refine ok_run 7 (p' := .fin) (env' := E3) (H' := (mkH [])) (by kernel_rfl) ?_
    exact ok_ret (r := ((1 : Int), (10 : Int))) (xs := [.int .i64 1, .int .i64 10]) (v := .tuple [.int .i64 1, .int .i64 10]) (by kernel_rfl) (by kernel_rfl) (by kernel_rfl) (.pures (by kernel_rfl)) (by kernel_rfl)
   ·let E4 : Env := [(32, .bool (decide (x0_1 = 39))), (34, .bool (decide (x0_1 = 39))), (33, .int .u8 x0_1), (14, .bool false), (0, .str a0), (4, .int .u8 x0_1), (14, .bool z12)]
    refine ok_run 7 (p' := g20p10) (env' := E4) (H' := (mkH [])) (by kernel_rfl) ?_
    refine ok_split 32 (b := decide (x0_1 = 39)) (by kernel_rfl) (fun hb => ?_) (fun hb => ?_)
    ·refine ok_run 4 (p' := (atN 1 (ctl1 g20p11))) (env' := ((35, .str a0) :: (32, .bool true) :: E4)) (H' := (mkH [])) (by kernel_rfl) ?_
     refine ok_call (fun (x3_1 : Int) => .int .i64 x3_1) (atN 2 (ctl1 g20p11)) (fun x3_1 => ((36, .int .i64 x3_1) :: (35, .str a0) :: (32, .bool true) :: E4)) (fi := 34) (args := [.str a0]) (by kernel_rfl) (by kernel_rfl) (fun _ => by kernel_rfl) (fun r h => g34_ok k a0 r h) (fun _ => by kernel_rfl) (fun x3_1 hx3_1 => ?_)
     let E5 : Env := ((3, .int .i64 1) :: (2, .int .i64 x3_1) :: (36, .int .i64 x3_1) :: (35, .str a0) :: (32, .bool true) :: E4)
     refine ok_run 4 (p' := .fin) (env' := E5) (H' := (mkH [])) (by kernel_rfl) ?_
     exact ok_ret (r := (x3_1, (1 : Int))) (xs := [.int .i64 x3_1, .int .i64 1]) (v := .tuple [.int .i64 x3_1, .int .i64 1]) (by kernel_rfl) (by kernel_rfl) (by kernel_rfl) (.pures (by kernel_rfl)) (by kernel_rfl)
    ·refine ok_run 7 (p' := g20p13) (env' := ((37, .bool (decide (x0_1 = 34))) :: (39, .bool (decide (x0_1 = 34))) :: (38, .int .u8 x0_1) :: (32, .bool false) :: E4)) (H' := (mkH [])) (by kernel_rfl) ?_
     refine ok_keep [0, 4, 37] (env' := [(0, .str a0), (4, .int .u8 x0_1), (37, .bool (decide (x0_1 = 34)))]) (by kernel_rfl) ?_
     refine ok_split 37 (b := decide (x0_1 = 34)) (by kernel_rfl) (fun hb => ?_) (fun hb => ?_)
     ·let E6 : Env := [(40, .str a0), (37, .bool true), (0, .str a0), (4, .int .u8 x0_1), (37, .bool (decide (x0_1 = 34)))]
      refine ok_run 4 (p' := (atN 1 (ctl1 g20p14))) (env' := E6) (H' := (mkH [])) (by kernel_rfl) ?_
      refine ok_call (fun (x4_1 : Int) => .int .i64 x4_1) (atN 2 (ctl1 g20p14)) (fun x4_1 => ((41, .int .i64 x4_1) :: E6)) (fi := 34) (args := [.str a0]) (by kernel_rfl) (by kernel_rfl) (fun _ => by kernel_rfl) (fun r h => g34_ok k a0 r h) (fun _ => by kernel_rfl) (fun x4_1 hx4_1 => ?_)
      refine ok_run 4 (p' := .fin) (env' := ((3, .int .i64 6) :: (2, .int .i64 x4_1) :: (41, .int .i64 x4_1) :: E6)) (H' := (mkH [])) (by kernel_rfl) ?_
      exact ok_ret (r := (x4_1, (6 : Int))) (xs := [.int .i64 x4_1, .int .i64 6]) (v := .tuple [.int .i64 x4_1, .int .i64 6]) (by kernel_rfl) (by kernel_rfl) (by kernel_rfl) (.pures (by kernel_rfl)) (by kernel_rfl)
     ·let E7 : Env := [(42, .bool (decide (x0_1 = 36))), (44, .bool (decide (x0_1 = 36))), (43, .int .u8 x0_1), (37, .bool false), (0, .str a0), (4, .int .u8 x0_1), (37, .bool (decide (x0_1 = 34)))]
      refine ok_run 7 (p' := g20p16) (env' := E7) (H' := (mkH [])) (by kernel_rfl) ?_
      refine ok_split 42 (b := decide (x0_1 = 36)) (by kernel_rfl) (fun hb => ?_) (fun hb => ?_)
      ·refine ok_run 4 (p' := (atN 1 (ctl1 g20p17))) (env' := ((45, .str a0) :: (42, .bool true) :: E7)) (H' := (mkH [])) (by kernel_rfl) ?_
       refine ok_call (fun (x5_1 : Int) => .int .i64 x5_1) (atN 2 (ctl1 g20p17)) (fun x5_1 => ((46, .int .i64 x5_1) :: (45, .str a0) :: (42, .bool true) :: E7)) (fi := 35) (args := [.str a0]) (by kernel_rfl) (by kernel_rfl) (fun _ => by kernel_rfl) (fun r h => g35_ok k a0 r h) (fun _ => by kernel_rfl) (fun x5_1 hx5_1 => ?_)
       let E8 : Env := ((3, .int .i64 5) :: (2, .int .i64 x5_1) :: (46, .int .i64 x5_1) :: (45, .str a0) :: (42, .bool true) :: E7)
       refine ok_run 4 (p' := .fin) (env' := E8) (H' := (mkH [])) (by kernel_rfl) ?_
       exact ok_ret (r := (x5_1, (5 : Int))) (xs := [.int .i64 x5_1, .int .i64 5]) (v := .tuple [.int .i64 x5_1, .int .i64 5]) (by kernel_rfl) (by kernel_rfl) (by kernel_rfl) (.pures (by kernel_rfl)) (by kernel_rfl)
      ·refine ok_run 7 (p' := g20p19) (env' := ((47, .bool (decide (x0_1 = 63))) :: (49, .bool (decide (x0_1 = 63))) :: (48, .int .u8 x0_1) :: (42, .bool false) :: E7)) (H' := (mkH [])) (by kernel_rfl) ?_
       refine ok_keep [0, 4, 47] (env' := [(0, .str a0), (4, .int .u8 x0_1), (47, .bool (decide (x0_1 = 63)))]) (by kernel_rfl) ?_
       refine ok_split 47 (b := decide (x0_1 = 63)) (by kernel_rfl) (fun hb => ?_) (fun hb => ?_)
       ·let E9 : Env := [(50, .str a0), (47, .bool true), (0, .str a0), (4, .int .u8 x0_1), (47, .bool (decide (x0_1 = 63)))]
        refine ok_run 4 (p' := (atN 1 (ctl1 g20p20))) (env' := E9) (H' := (mkH [])) (by kernel_rfl) ?_
        refine ok_call (fun (x6_1 : Int) => .int .i64 x6_1) (atN 2 (ctl1 g20p20)) (fun x6_1 => ((51, .int .i64 x6_1) :: E9)) (fi := 36) (args := [.str a0]) (by kernel_rfl) (by kernel_rfl) (fun _ => by kernel_rfl) (fun r h => g36_ok k a0 r h) (fun _ => by kernel_rfl) (fun x6_1 hx6_1 => ?_)
        refine ok_run 4 (p' := .fin) (env' := ((3, .int .i64 7) :: (2, .int .i64 x6_1) :: (51, .int .i64 x6_1) :: E9)) (H' := (mkH [])) (by kernel_rfl) ?_
        exact ok_ret (r := (x6_1, (7 : Int))) (xs := [.int .i64 x6_1, .int .i64 7]) (v := .tuple [.int .i64 x6_1, .int .i64 7]) (by kernel_rfl) (by kernel_rfl) (by kernel_rfl) (.pures (by kernel_rfl)) (by kernel_rfl)
       ·let E10 : Env := [(52, .int .u8 x0_1), (47, .bool false), (0, .str a0), (4, .int .u8 x0_1), (47, .bool (decide (x0_1 = 63)))]
        refine ok_run 6 (p' := (atN 1 (ctl1 g20p21))) (env' := E10) (H' := (mkH [])) (by kernel_rfl) ?_
        refine ok_call (fun (x7_1 : Int) => .int .i64 x7_1) (atN 2 (ctl1 g20p21)) (fun x7_1 => ((53, .int .i64 x7_1) :: E10)) (fi := 37) (args := [.int .u8 x0_1]) (by kernel_rfl) (by kernel_rfl) (fun _ => by kernel_rfl) (fun r h => g37_ok k x0_1 r h) (fun _ => by kernel_rfl) (fun x7_1 hx7_1 => ?_)
        let E11 : Env := ((55, .bool (decide (x7_1 = 3))) :: (56, .bool (decide (x7_1 = 3))) :: (54, .int .i64 x7_1) :: (5, .int .i64 x7_1) :: (53, .int .i64 x7_1) :: E10)
        refine ok_run 12 (p' := g20p24) (env' := E11) (H' := (mkH [])) (by kernel_rfl) ?_
        refine ok_split 55 (b := decide (x7_1 = 3)) (by kernel_rfl) (fun hb => ?_) (fun hb => ?_)
        ·refine ok_run 4 (p' := (atN 1 (ctl1 g20p25))) (env' := ((57, .str a0) :: (55, .bool true) :: E11)) (H' := (mkH [])) (by kernel_rfl) ?_
         refine ok_call (fun (x8_1 : (Int × Int)) => .tuple [.int .i64 x8_1.1, .int .i64 x8_1.2]) (atN 2 (ctl1 g20p25)) (fun x8_1 => ((58, .tuple [.int .i64 x8_1.1, .int .i64 x8_1.2]) :: (57, .str a0) :: (55, .bool true) :: E11)) (fi := 38) (args := [.str a0]) (by kernel_rfl) (by kernel_rfl) (fun _ => by kernel_rfl) (fun r h => g38_ok k a0 r h) (fun _ => by kernel_rfl) (fun x8_1 hx8_1 => ?_)
         let E12 : Env := ((3, .int .i64 x8_1.2) :: (2, .int .i64 x8_1.1) :: (60, .int .i64 x8_1.2) :: (59, .int .i64 x8_1.1) :: (58, .tuple [.int .i64 x8_1.1, .int .i64 x8_1.2]) :: (57, .str a0) :: (55, .bool true) :: E11)
         refine ok_run 6 (p' := .fin) (env' := E12) (H' := (mkH [])) (by kernel_rfl) ?_
         exact ok_ret (r := (x8_1.1, x8_1.2)) (xs := [.int .i64 x8_1.1, .int .i64 x8_1.2]) (v := .tuple [.int .i64 x8_1.1, .int .i64 x8_1.2]) (by kernel_rfl) (by kernel_rfl) (by kernel_rfl) (.pures (by kernel_rfl)) (by kernel_rfl)
        ·refine ok_run 7 (p' := g20p27) (env' := ((61, .bool (decide (x7_1 = 1))) :: (62, .bool (decide (x7_1 = 1))) :: (55, .bool false) :: E11)) (H' := (mkH [])) (by kernel_rfl) ?_
         refine ok_keep [0, 5, 54, 61] (env' := [(0, .str a0), (5, .int .i64 x7_1), (54, .int .i64 x7_1), (61, .bool (decide (x7_1 = 1)))]) (by kernel_rfl) ?_
         refine ok_jn (f := fun (z13 : Bool) => if z13 then ((g39 k a0).bind fun x9_1 => (subL a0 none (some x9_1)).bind fun x10_2 => (g40 k x10_2).bind fun x10_3 => jn (fun (z14 : Int) => some (x9_1, z14)) (fun j14 => if x10_3 then (j14 8) else (j14 x7_1))) else ((g41 k a0 (0 : Int)).bind fun x11_1 => some (x11_1, (9 : Int)))) g20p28 (fun (z13 : Bool) => [(0, .str a0), (5, .int .i64 x7_1), (61, .bool z13)]) (fun (z13 : Bool) => (mkH [])) (fun z13 => ?_) (fun j13 hj13 => ?_)
         ·refine ok_split 61 (b := z13) (by kernel_rfl) (fun hb => ?_) (fun hb => ?_)
          ·let E13 : Env := [(64, .str a0), (61, .bool true), (0, .str a0), (5, .int .i64 x7_1), (61, .bool z13)]
           refine ok_run 4 (p' := (atN 1 (ctl1 g20p30))) (env' := E13) (H' := (mkH [])) (by kernel_rfl) ?_
           refine ok_call (fun (x9_1 : Int) => .int .i64 x9_1) (atN 2 (ctl1 g20p30)) (fun x9_1 => ((65, .int .i64 x9_1) :: E13)) (fi := 39) (args := [.str a0]) (by kernel_rfl) (by kernel_rfl) (fun _ => by kernel_rfl) (fun r h => g39_ok k a0 r h) (fun _ => by kernel_rfl) (fun x9_1 hx9_1 => ?_)
           refine ok_run 7 (p' := (atN 2 (ctl1 g20p32))) (env' := ((67, .int .i64 x9_1) :: (66, .str a0) :: (6, .int .i64 x9_1) :: (65, .int .i64 x9_1) :: E13)) (H' := (mkH [])) (by kernel_rfl) ?_
           refine ok_chk (fun (x10_2 : (List Nat)) => (.str x10_2, (mkH []))) (atN 3 (ctl1 g20p32)) (fun x10_2 => ((68, .str x10_2) :: (67, .int .i64 x9_1) :: (66, .str a0) :: (6, .int .i64 x9_1) :: (65, .int .i64 x9_1) :: E13)) (subH none (some x9_1) (by kernel_rfl)) (fun _ => by kernel_rfl) (fun x10_2 hx10_2 => ?_)
           refine ok_call (fun (x10_3 : Bool) => .bool x10_3) (atN 4 (ctl1 g20p32)) (fun x10_3 => ((69, .bool x10_3) :: (68, .str x10_2) :: (67, .int .i64 x9_1) :: (66, .str a0) :: (6, .int .i64 x9_1) :: (65, .int .i64 x9_1) :: E13)) (fi := 40) (args := [.str x10_2]) (by kernel_rfl) (by kernel_rfl) (fun _ => by kernel_rfl) (fun r h => g40_ok k x10_2 r h) (fun _ => by kernel_rfl) (fun x10_3 hx10_3 => ?_)
           let E14 : Env := ((69, .bool x10_3) :: (68, .str x10_2) :: (67, .int .i64 x9_1) :: (66, .str a0) :: (6, .int .i64 x9_1) :: (65, .int .i64 x9_1) :: E13)
           refine ok_run 1 (p' := g20p33) (env' := E14) (H' := (mkH [])) (by kernel_rfl) ?_
           refine ok_keep [5, 6, 69] (env' := [(5, .int .i64 x7_1), (6, .int .i64 x9_1), (69, .bool x10_3)]) (by kernel_rfl) ?_
           refine ok_jn (f := fun (z14 : Int) => some (x9_1, z14)) g20p35 (fun (z14 : Int) => [(5, .int .i64 z14), (6, .int .i64 x9_1)]) (fun (z14 : Int) => (mkH [])) (fun z14 => ?_) (fun j14 hj14 => ?_)
           ·let E15 : Env := [(3, .int .i64 z14), (2, .int .i64 x9_1), (71, .int .i64 z14), (70, .int .i64 x9_1), (5, .int .i64 z14), (6, .int .i64 x9_1)]
            refine ok_run 7 (p' := .fin) (env' := E15) (H' := (mkH [])) (by kernel_rfl) ?_
            exact ok_ret (r := (x9_1, z14)) (xs := [.int .i64 x9_1, .int .i64 z14]) (v := .tuple [.int .i64 x9_1, .int .i64 z14]) (by kernel_rfl) (by kernel_rfl) (by kernel_rfl) (.pures (by kernel_rfl)) (by kernel_rfl)
           ·refine ok_split 69 (b := x10_3) (by kernel_rfl) (fun hb => ?_) (fun hb => ?_)
            ·let E16 : Env := [(5, .int .i64 8), (69, .bool true), (5, .int .i64 x7_1), (6, .int .i64 x9_1), (69, .bool x10_3)]
             refine ok_run 5 (p' := g20p35) (env' := E16) (H' := (mkH [])) (by kernel_rfl) ?_
             refine ok_keep [5, 6] (env' := [(5, .int .i64 8), (6, .int .i64 x9_1)]) (by kernel_rfl) ?_
             exact hj14 8
            ·refine ok_run 3 (p' := g20p35) (env' := [(69, .bool false), (5, .int .i64 x7_1), (6, .int .i64 x9_1), (69, .bool x10_3)]) (H' := (mkH [])) (by kernel_rfl) ?_
             refine ok_keep [5, 6] (env' := [(5, .int .i64 x7_1), (6, .int .i64 x9_1)]) (by kernel_rfl) ?_
             exact hj14 x7_1
          ·let E17 : Env := [(72, .str a0), (61, .bool false), (0, .str a0), (5, .int .i64 x7_1), (61, .bool z13)]
           refine ok_run 5 (p' := (atN 1 (ctl1 g20p31))) (env' := E17) (H' := (mkH [])) (by kernel_rfl) ?_
           refine ok_call (fun (x11_1 : Int) => .int .i64 x11_1) (atN 2 (ctl1 g20p31)) (fun x11_1 => ((73, .int .i64 x11_1) :: E17)) (fi := 41) (args := [.str a0, .int .i64 0]) (by kernel_rfl) (by kernel_rfl) (fun _ => by kernel_rfl) (fun r h => g41_ok k a0 (0 : Int) r h) (fun _ => by kernel_rfl) (fun x11_1 hx11_1 => ?_)
           refine ok_run 4 (p' := .fin) (env' := ((3, .int .i64 9) :: (2, .int .i64 x11_1) :: (73, .int .i64 x11_1) :: E17)) (H' := (mkH [])) (by kernel_rfl) ?_
           exact ok_ret (r := (x11_1, (9 : Int))) (xs := [.int .i64 x11_1, .int .i64 9]) (v := .tuple [.int .i64 x11_1, .int .i64 9]) (by kernel_rfl) (by kernel_rfl) (by kernel_rfl) (.pures (by kernel_rfl)) (by kernel_rfl)
         ·refine ok_split 61 (b := decide (x7_1 = 1)) (by kernel_rfl) (fun hb => ?_) (fun hb => ?_)
          ·let E18 : Env := [(61, .bool true), (0, .str a0), (5, .int .i64 x7_1), (54, .int .i64 x7_1), (61, .bool (decide (x7_1 = 1)))]
           refine ok_run 2 (p' := g20p28) (env' := E18) (H' := (mkH [])) (by kernel_rfl) ?_
           refine ok_keep [0, 5, 61] (env' := [(0, .str a0), (5, .int .i64 x7_1), (61, .bool true)]) (by kernel_rfl) ?_
           exact hj13 true
          ·let E19 : Env := [(61, .bool (decide (x7_1 = 2))), (63, .bool (decide (x7_1 = 2))), (61, .bool false), (0, .str a0), (5, .int .i64 x7_1), (54, .int .i64 x7_1), (61, .bool (decide (x7_1 = 1)))]
           refine ok_run 5 (p' := g20p28) (env' := E19) (H' := (mkH [])) (by kernel_rfl) ?_
           refine ok_keep [0, 5, 61] (env' := [(0, .str a0), (5, .int .i64 x7_1), (61, .bool (decide (x7_1 = 2)))]) (by kernel_rfl) ?_
           exact hj13 (decide (x7_1 = 2))
  ·refine ok_split 17 (b := decide (x0_1 = 46)) (by kernel_rfl) (fun hb => ?_) (fun hb => ?_)
   ·let E20 : Env := ((21, .bool (decide ((a0.length : Int) = 1))) :: (20, .bool (decide ((a0.length : Int) = 1))) :: (19, .int .i64 (a0.length : Int)) :: (18, .str a0) :: (17, .bool true) :: (17, .bool (decide (x0_1 = 46))) :: (16, .bool (decide (x0_1 = 46))) :: (15, .int .u8 x0_1) :: (9, .bool false) :: E1)
    refine ok_run 4 (p' := (atN 7 (ctl1 g20p5))) (env' := E20) (H' := (mkH [])) (by kernel_rfl) ?_
    refine ok_split 21 (b := decide ((a0.length : Int) = 1)) (by kernel_rfl) (fun hb => ?_) (fun hb => ?_)
    ·let E21 : Env := ((14, .bool true) :: (31, .bool true) :: (30, .bool true) :: (29, .tuple []) :: (28, .tuple []) :: (27, .tuple []) :: (26, .bool true) :: (25, .bool true) :: (24, .tuple []) :: (23, .tuple []) :: (22, .tuple []) :: (21, .bool true) :: E20)
     refine ok_run 12 (p' := g20p7) (env' := E21) (H' := (mkH [])) (by kernel_rfl) ?_
     refine ok_keep [0, 4, 14] (env' := [(0, .str a0), (4, .int .u8 x0_1), (14, .bool true)]) (by kernel_rfl) ?_
     exact hj12 true
    ·refine ok_run 1 (p' := (atN 8 (ctl1 g20p5))) (env' := ((22, .str a0) :: (21, .bool false) :: E20)) (H' := (mkH [])) (by kernel_rfl) ?_
     refine ok_chk (fun (x2_8 : Int) => (.int .u8 x2_8, (mkH []))) (atN 9 (ctl1 g20p5)) (fun x2_8 => ((23, .int .u8 x2_8) :: (22, .str a0) :: (21, .bool false) :: E20)) (idxH (by kernel_rfl)) (fun _ => by kernel_rfl) (fun x2_8 hx2_8 => ?_)
     refine ok_call (fun (x2_9 : Bool) => .bool x2_9) (atN 10 (ctl1 g20p5)) (fun x2_9 => ((24, .bool x2_9) :: (23, .int .u8 x2_8) :: (22, .str a0) :: (21, .bool false) :: E20)) (fi := 30) (args := [.int .u8 x2_8]) (by kernel_rfl) (by kernel_rfl) (fun _ => by kernel_rfl) (fun r h => g30_ok k x2_8 r h) (fun _ => by kernel_rfl) (fun x2_9 hx2_9 => ?_)
     let E22 : Env := ((26, .bool x2_9) :: (25, .bool x2_9) :: (24, .bool x2_9) :: (23, .int .u8 x2_8) :: (22, .str a0) :: (21, .bool false) :: E20)
     refine ok_run 2 (p' := (atN 12 (ctl1 g20p5))) (env' := E22) (H' := (mkH [])) (by kernel_rfl) ?_
     refine ok_split 26 (b := x2_9) (by kernel_rfl) (fun hb => ?_) (fun hb => ?_)
     ·let E23 : Env := ((14, .bool true) :: (31, .bool true) :: (30, .bool true) :: (29, .tuple []) :: (28, .tuple []) :: (27, .tuple []) :: (26, .bool true) :: E22)
      refine ok_run 7 (p' := g20p7) (env' := E23) (H' := (mkH [])) (by kernel_rfl) ?_
      refine ok_keep [0, 4, 14] (env' := [(0, .str a0), (4, .int .u8 x0_1), (14, .bool true)]) (by kernel_rfl) ?_
      exact hj12 true
     ·refine ok_run 1 (p' := (atN 13 (ctl1 g20p5))) (env' := ((27, .str a0) :: (26, .bool false) :: E22)) (H' := (mkH [])) (by kernel_rfl) ?_
      refine ok_chk (fun (x2_13 : Int) => (.int .u8 x2_13, (mkH []))) (atN 14 (ctl1 g20p5)) (fun x2_13 => ((28, .int .u8 x2_13) :: (27, .str a0) :: (26, .bool false) :: E22)) (idxH (by kernel_rfl)) (fun _ => by kernel_rfl) (fun x2_13 hx2_13 => ?_)
      let E24 : Env := ((14, .bool (decide (x2_13 = 37))) :: (31, .bool (decide (x2_13 = 37))) :: (30, .bool (decide (x2_13 = 37))) :: (29, .bool (decide (x2_13 = 37))) :: (28, .int .u8 x2_13) :: (27, .str a0) :: (26, .bool false) :: E22)
      refine ok_run 5 (p' := g20p7) (env' := E24) (H' := (mkH [])) (by kernel_rfl) ?_
      refine ok_keep [0, 4, 14] (env' := [(0, .str a0), (4, .int .u8 x0_1), (14, .bool (decide (x2_13 = 37)))]) (by kernel_rfl) ?_
      exact hj12 (decide (x2_13 = 37))
   ·let E25 : Env := ((14, .bool false) :: (31, .bool false) :: (30, .tuple []) :: (29, .tuple []) :: (28, .tuple []) :: (27, .tuple []) :: (26, .tuple []) :: (25, .tuple []) :: (24, .tuple []) :: (23, .tuple []) :: (22, .tuple []) :: (21, .tuple []) :: (20, .tuple []) :: (19, .tuple []) :: (18, .tuple []) :: (17, .bool false) :: (17, .bool (decide (x0_1 = 46))) :: (16, .bool (decide (x0_1 = 46))) :: (15, .int .u8 x0_1) :: (9, .bool false) :: E1)
    refine ok_run 16 (p' := g20p7) (env' := E25) (H' := (mkH [])) (by kernel_rfl) ?_
    refine ok_keep [0, 4, 14] (env' := [(0, .str a0), (4, .int .u8 x0_1), (14, .bool false)]) (by kernel_rfl) ?_
    exact hj12 false
end
end Go.Proofs.Ytokcjgjgojlhbaa.Am
set_option maxRecDepth 100000
set_option linter.unusedVariables false
set_option linter.unusedSimpArgs false
namespace Go.Proofs.Ytokcjgjgojlhbaa.Am
open Go
theorem blank_l (k : Nat) {s : List Nat} (hs : By s) (hl : Sz s) : ∀ (f i : Nat), s.length < i + f → i ≤ s.length → g16_l1 k s f (i : Int) = some ((i + skipN (s.drop i) : Nat) : Int)
 | 0, i, h, h2 => by omega
 | f + 1, i, h, h2 => by
  have hl' := hl
  unfold Sz at hl
  rw [g16_l1_s]
  rcases Nat.lt_or_ge i s.length with hi | hi
  ·obtain ⟨c, r, hc, hr, hm, hrl⟩ := dcons hi
   have ih := blank_l k hs hl' f (i + 1) (by omega) (by omega)
   rw [hr] at ih
   have nc := nthX (x := (i : Int)) rfl hc
   have bc := blank_at k (hs c hm)
   refine (jS (v := (blkN c, (i : Int))) (fun j => ?_)).trans ?_
   ·refine iT (by first | (simp (disch := omega) only [↓reduceIte, ↓jn, gsL]; done) | rfl) ?_
    refine bS (by (try simp (disch := omega) only [fwI]); exact nc) ?_
    refine bS (by (try simp (disch := omega) only [fwI]); exact bc) ?_
    rfl
   ·rw [hc]
    simp only [skipN]
    cases blkN c with
    | true =>
     refine iT rfl ?_
     rw [fw_s (by omega)]
     refine ih.trans (sn ?_)
     simp only [if_true]; omega
    | false =>
     refine iF rfl ?_
     simp only [minI, Bool.false_eq_true, if_false]
     rw [if_neg (by omega)]; rfl
  ·refine (jS (v := (false, (i : Int))) (fun j => ?_)).trans ?_
   ·simp (disch := omega) only [↓reduceIte, ↓jn, gsL]
   ·refine iF rfl ?_
    rw [dnil hi]
    simp only [minI, skipN]
    rw [if_neg (by omega)]; rfl
theorem sblank_at {k : Nat} {s : List Nat} (hk : s.length < k) (hs : By s) (hl : Sz s) {a : Nat} (ha : a ≤ s.length) : g16 k s (a : Int) = some ((a + skipN (s.drop a) : Nat) : Int) := by
 unfold g16
 have e : maxI (a : Int) 0 = (a : Int) := by unfold maxI; rw [if_neg (by omega)]
 rw [e]
 exact blank_l k hs hl k a (by omega) ha
theorem inner_l (k : Nat) {s : List Nat} (hs : By s) (hl : Sz s) : ∀ (f i : Nat), s.length < i + f → i ≤ s.length → g39_l1 k s f (i : Int) = some ((i + innN (s.drop i) : Nat) : Int)
 | 0, i, h, h2 => by omega
 | f + 1, i, h, h2 => by
  have hl' := hl
  unfold Sz at hl
  rw [g39_l1_s]
  rcases Nat.lt_or_ge i s.length with hi | hi
  ·obtain ⟨c, r, hc, hr, hm, hrl⟩ := dcons hi
   have ih := inner_l k hs hl' f (i + 1) (by omega) (by omega)
   rw [hr] at ih
   have nc := nthX (x := (i : Int)) rfl hc
   have bc := inner_at58 k (hs c hm)
   refine (jS (v := (inrN c, (i : Int))) (fun j => ?_)).trans ?_
   ·refine iT (by first | (simp (disch := omega) only [↓reduceIte, ↓jn, gsL]; done) | rfl) ?_
    refine bS (by (try simp (disch := omega) only [fwI]); exact nc) ?_
    refine bS (by (try simp (disch := omega) only [fwI]); exact bc) ?_
    rfl
   ·rw [hc]
    simp only [innN]
    cases inrN c with
    | true =>
     refine iT rfl ?_
     rw [fw_s (by omega)]
     refine ih.trans (sn ?_)
     simp only [if_true]; omega
    | false =>
     refine iF rfl ?_
     simp only [Bool.false_eq_true, if_false]; rfl
  ·refine (jS (v := (false, (i : Int))) (fun j => ?_)).trans ?_
   ·simp (disch := omega) only [↓reduceIte, ↓jn, gsL]
   ·refine iF rfl ?_
    rw [dnil hi]; rfl
theorem sinner_at {k : Nat} {s : List Nat} (hk : s.length < k) (hs : By s) (hl : Sz s) : g39 k s = some ((innN s : Nat) : Int) := by
 have := inner_l k hs hl k 0 (by omega) (by omega)
 rw [Nat.zero_add] at this
 exact this
theorem shown_at {k : Nat} (hk : 6 ≤ k) {s : List Nat} (hs : By s) (hl : Sz s) (a : Nat) : g51 k s (a : Int) = some ((shwN (s.drop a) : Nat) : Int) := by
 unfold g51
 refine bS (by (try simp (disch := omega) only [fwI]); exact next_at hk hs hl a) ?_
 unfold shwN
 by_cases h : (dec (s.drop a)).1 < 32 ∨ (dec (s.drop a)).1 = 127
 ·rw [if_pos h]
  refine (jS (v := true) (fun j => ?_)).trans rfl
  by_cases h1 : (dec (s.drop a)).1 < 32
  ·simp (disch := omega) only [↓reduceIte, ↓jn, gsL, h1]
  ·simp (disch := omega) only [↓reduceIte, ↓jn, gsL, h1]
 ·rw [if_neg h]
  refine (jS (v := false) (fun j => ?_)).trans ?_
  ·simp (disch := omega) only [↓reduceIte, ↓jn, gsL]
  ·refine iF (by first | (simp (disch := omega) only [↓reduceIte, ↓jn, gsL]; done) | rfl) ?_
   congr 1
   cases hd : s.drop a with
   | nil => rfl
   | cons c r =>
    obtain ⟨n, n1, -⟩ := dec_size (s := c :: r) (by simp)
    rw [n1]; rfl
theorem quoted_l {k : Nat} (hk : 6 ≤ k) {s : List Nat} (hs : By s) (hl : Sz s) {q : Nat} {t : List Nat} (hq : s = q :: t) (hq2 : q = 39 ∨ q = 34) : ∀ (d f i : Nat), s.length ≤ i + d → d < f → i ≤ s.length → g34_l4 k s f (i : Int) = some ((bmp i (quoN q d (s.drop i)) : Nat) : Int) := by
 have n0 : nthS s 0 = some (q : Int) := nthX (i := 0) rfl (by rw [List.drop_zero]; exact hq)
 have hl' := hl
 unfold Sz at hl
 intro d
 induction d with
 | zero =>
  intro f i h1 hf h2
  obtain ⟨f, rfl⟩ : ∃ f', f = f' + 1 := ⟨f - 1, by omega⟩
  have sh := shown_at hk hs hl' i
  rw [dnil (by omega : s.length ≤ i)] at sh ⊢
  rw [g34_l4_s]
  refine bS (by (try simp (disch := omega) only [fwI]); exact sh) ?_
  rfl
 | succ d ih =>
  intro f i h1 hf h2
  obtain ⟨f, rfl⟩ : ∃ f', f = f' + 1 := ⟨f - 1, by omega⟩
  have sh := shown_at hk hs hl' i
  rw [g34_l4_s]
  rcases Nat.lt_or_ge i s.length with hi | hi
  ·obtain ⟨c, r, hc, hr, hm, hrl⟩ := dcons hi
   have nc := nthX (x := (i : Int)) rfl hc
   refine bS (by (try simp (disch := omega) only [fwI]); exact sh) ?_
   rw [hc]
   simp only [quoN]
   by_cases hcq : c = q
   ·subst hcq
    have s1 : shwN (c :: r) = 1 := by
     unfold shwN
     rcases hq2 with rfl | rfl
     ·rw [dec_ascii r (by decide)]; rfl
     ·rw [dec_ascii r (by decide)]; rfl
    rw [s1, if_pos rfl]
    refine iF rfl ?_
    refine bS (by (try simp (disch := omega) only [fwI]); exact nc) ?_
    refine bS (by (try simp (disch := omega) only [fwI]); exact n0) ?_
    refine iT (dT rfl) ?_
    rw [fw_s (by omega)]
    unfold bmp
    rfl
   ·rw [if_neg hcq]
    by_cases h92 : c = 92
    ·subst h92
     have s1 : shwN (92 :: r) = 1 := by unfold shwN; rw [dec_ascii r (by decide)]; rfl
     rw [s1, if_pos rfl]
     refine iF rfl ?_
     refine bS (by (try simp (disch := omega) only [fwI]); exact nc) ?_
     refine bS (by (try simp (disch := omega) only [fwI]); exact n0) ?_
     refine iF (dF (by omega)) ?_
     refine bS (by (try simp (disch := omega) only [fwI]); exact nc) ?_
     have sh2 := shown_at hk hs hl' (i + 1)
     rw [hr] at sh2
     have wl := shwN_le r
     by_cases hz : shwN r = 0
     ·rw [if_pos hz]
      refine jC fun j => ?_
      refine iT rfl ?_
      rw [fw_s (by omega)]
      refine bS (by (try simp (disch := omega) only [fwI]); exact sh2) ?_
      refine iT (dT (by omega)) ?_
      unfold bmp; rfl
     ·rw [if_neg hz]
      refine (jS (v := (((i + 1 : Nat) : Int), (shwN r : Int))) (fun j => ?_)).trans ?_
      ·refine iT rfl ?_
       rw [fw_s (by omega)]
       refine bS (by (try simp (disch := omega) only [fwI]); exact sh2) ?_
       refine iF (dF (by omega)) ?_
       rfl
      ·show g34_l4 k s f (fwrap .i64 (((i + 1 : Nat) : Int) + (shwN r : Int))) = _
       rw [fw_a (by omega) (by omega)]
       refine (ih f (i + 1 + shwN r) (by omega) (by omega) (by omega)).trans (sn ?_)
       rw [← List.drop_drop, hr]
       unfold bmp
       repeat' split
       all_goals omega
    ·rw [if_neg h92]
     have wl := shwN_le (c :: r)
     simp only [List.length_cons] at wl
     by_cases hz : shwN (c :: r) = 0
     ·rw [if_pos hz]
      refine iT (dT (by omega)) ?_
      unfold bmp; rfl
     ·rw [if_neg hz]
      refine iF (dF (by omega)) ?_
      refine bS (by (try simp (disch := omega) only [fwI]); exact nc) ?_
      refine bS (by (try simp (disch := omega) only [fwI]); exact n0) ?_
      refine iF (dF (by omega)) ?_
      refine bS (by (try simp (disch := omega) only [fwI]); exact nc) ?_
      refine (jS (v := ((i : Int), (shwN (c :: r) : Int))) (fun j => ?_)).trans ?_
      ·refine iF (dF (by omega)) ?_
       rfl
      ·show g34_l4 k s f (fwrap .i64 ((i : Int) + (shwN (c :: r) : Int))) = _
       rw [fw_a (by omega) (by omega)]
       refine (ih f (i + shwN (c :: r)) (by omega) (by omega) (by omega)).trans (sn ?_)
       rw [← List.drop_drop, hc]
       unfold bmp
       repeat' split
       all_goals omega
  ·rw [dnil hi] at sh ⊢
   refine bS (by (try simp (disch := omega) only [fwI]); exact sh) ?_
   rfl
theorem quoted_at {k : Nat} {s : List Nat} (hk : s.length + 6 ≤ k) (hs : By s) (hl : Sz s) {q : Nat} {t : List Nat} (hq : s = q :: t) (hq2 : q = 39 ∨ q = 34) : g34 k s = some ((qtdN s : Nat) : Int) := by
 have := quoted_l (k := k) (by omega) hs hl hq hq2 t.length k 1 (by rw [hq, List.length_cons]; omega) (by rw [hq, List.length_cons] at hk; omega) (by rw [hq, List.length_cons]; omega)
 refine this.trans (sn ?_)
 subst hq
 rfl
theorem char_at {k : Nat} (hk : 10 ≤ k) {s : List Nat} (hs : By s) (hl : Sz s) {a : Nat} {t : List Nat} (hq : s = a :: t) : g35 k s = some ((chrN s : Nat) : Int) := by
 have hl' := hl
 unfold Sz at hl
 unfold g35
 cases t with
 | nil =>
  subst hq
  refine (jS (v := false) (fun j => rfl)).trans ?_
  refine iF rfl ?_
  have sh := shown_at (k := k) (by omega) hs hl' 1
  refine bS (by (try simp (disch := omega) only [fwI]); exact sh) ?_
  rfl
 | cons c r =>
  have d1 : s.drop 1 = c :: r := by rw [hq]; rfl
  have n1 : nthS s 1 = some (c : Int) := nthX (i := 1) rfl d1
  have len : s.length = r.length + 2 := by rw [hq]; rfl
  have es : chrN s = if c = 92 then (if 0 < (escN (c :: r)).2 then (escN (c :: r)).2.toNat + 1 else 0) else if shwN (c :: r) ≠ 0 ∧ c ≠ 32 then shwN (c :: r) + 1 else 0 := by rw [hq]; rfl
  rw [es]
  by_cases h92 : c = 92
  ·rw [if_pos h92]
   refine (jS (v := true) (fun j => ?_)).trans ?_
   ·refine iT (by first | (simp (disch := omega) only [↓reduceIte, ↓jn, gsL]; done) | rfl) ?_
    refine bS (by (try simp (disch := omega) only [fwI]); exact n1) ?_
    rw [dT (by omega)]
   ·refine iT rfl ?_
    have ea := escape_at hk hs hl' 1
    rw [d1] at ea
    have ea' : g52 k s 1 = some (escN (c :: r)) := ea
    refine bS (by (try simp (disch := omega) only [fwI]); exact ea') ?_
    rcases escN_cases (c :: r) with h | ⟨v, n, h, h2, h3⟩
    ·rw [h]; rfl
    ·rw [h]
     simp only [List.length_cons] at h3
     have : (0 : Int) < ((n : Nat) : Int) := by omega
     simp only []
     rw [if_pos this]
     refine iT (dT this) ?_
     rw [fw_s (by omega), Int.toNat_natCast]
  ·rw [if_neg h92]
   refine (jS (v := false) (fun j => ?_)).trans ?_
   ·refine iT (by first | (simp (disch := omega) only [↓reduceIte, ↓jn, gsL]; done) | rfl) ?_
    refine bS (by (try simp (disch := omega) only [fwI]); exact n1) ?_
    rw [dF (by omega)]
   ·refine iF rfl ?_
    have sh := shown_at (k := k) (by omega) hs hl' 1
    rw [d1] at sh
    have sh' : g51 k s 1 = some ((shwN (c :: r) : Nat) : Int) := sh
    have wl := shwN_le (c :: r)
    refine bS (by (try simp (disch := omega) only [fwI]); exact sh') ?_
    by_cases hz : shwN (c :: r) = 0
    ·refine (jS (v := false) (fun j => ?_)).trans ?_
     ·refine iF (by first | (simp (disch := omega) only [↓reduceIte, ↓jn, gsL]; done) | rfl) ?_
      rfl
     ·rw [if_neg (show ¬ (shwN (c :: r) ≠ 0 ∧ c ≠ 32) from fun h => h.1 hz)]; rfl
    ·refine (jS (v := !decide (c = 32)) (fun j => ?_)).trans ?_
     ·refine iT (by first | (simp (disch := omega) only [↓reduceIte, ↓jn, gsL]; done) | rfl) ?_
      refine bS (by (try simp (disch := omega) only [fwI]); exact n1) ?_
      congr 2
      rw [Bool.eq_iff_iff]; simp; omega
     ·by_cases h32 : c = 32
      ·rw [decide_eq_true h32, if_neg (show ¬ (shwN (c :: r) ≠ 0 ∧ c ≠ 32) from fun h => h.2 h32)]; rfl
      ·rw [decide_eq_false h32, if_pos (show shwN (c :: r) ≠ 0 ∧ c ≠ 32 from ⟨hz, h32⟩)]
       refine iT rfl ?_
       rw [fw_s (by omega)]
theorem nth_hd {s : List Nat} {i : Nat} (h : i < s.length) : ∃ c r, s.drop i = c :: r ∧ nthS s (i : Int) = some (c : Int) ∧ c ∈ s := by
 obtain ⟨c, r, hc, -, hm, -⟩ := dcons h
 exact ⟨c, r, hc, nthX rfl hc, hm⟩
theorem number_at {k : Nat} {s : List Nat} (hk : s.length < k) (hk3 : 4 ≤ k) (hs : By s) (hl : Sz s) : g38 k s = some (((numN s).1 : Int), ((numN s).2 : Int)) := by
 have hl' := hl
 unfold Sz at hl
 have fin : ∀ (n kind : Nat), n ≤ s.length → jn (fun (z7 : Bool) => if z7 then (some ((0 : Int), (0 : Int))) else (some ((n : Int), (kind : Int)))) (fun j7 => if (decide ((n : Int) < (s.length : Int))) then ((nthS s (n : Int)).bind fun x4_7 => (g58 k x4_7).bind fun x4_8 => j7 x4_8) else (j7 false)) = some (((endN s n kind).1 : Int), ((endN s n kind).2 : Int)) := by
  intro n kind hn
  unfold endN
  rcases Nat.lt_or_ge n s.length with h | h
  ·obtain ⟨c, r, hc, nc, hm⟩ := nth_hd h
   rw [hc]
   refine (jS (v := inrN c) (fun j => ?_)).trans ?_
   ·refine iT (by first | (simp (disch := omega) only [↓reduceIte, ↓jn, gsL]; done) | rfl) ?_
    refine bS (by (try simp (disch := omega) only [fwI]); exact nc) ?_
    refine bS (by (try simp (disch := omega) only [fwI]); exact inner_at58 k (hs c hm)) ?_
    rfl
   ·simp only []
    cases inrN c <;> rfl
  ·rw [dnil h]
   refine (jS (v := false) (fun j => ?_)).trans ?_
   ·simp (disch := omega) only [↓reduceIte, ↓jn, gsL]
   ·rfl
 unfold g38
 refine bS (by (try simp (disch := omega) only [fwI]); exact part_at hk hs hl') ?_
 have pl := partN_le s
 have wl := wholeN_le s
 unfold numN
 by_cases h0 : partN s = 0
 ·rw [if_pos h0]
  by_cases hh : hashN s (wholeN s) = true
  ·rw [if_pos hh]
   refine jC fun j => ?_
   refine iT (by first | (simp (disch := omega) only [↓reduceIte, ↓jn, gsL]; done) | rfl) ?_
   refine bS (by (try simp (disch := omega) only [fwI]); exact whole_at hk hk3 hs hl') ?_
   refine bS (by (try simp (disch := omega) only [fwI]); exact front_at hk hk3 hs hl') ?_
   refine (jS (v := true) (fun j => ?_)).trans rfl
   unfold hashN at hh
   split at hh
   ·rename_i c r hc
    have nc := nthX (x := (wholeN s : Int)) rfl hc
    have dl := drop_len hc
    rw [Bool.and_eq_true, decide_eq_true_eq, Bool.or_eq_true, decide_eq_true_eq, decide_eq_true_eq] at hh
    obtain ⟨rfl, h1⟩ := hh
    refine iT (by first | (simp (disch := omega) only [↓reduceIte, ↓jn, gsL]; done) | rfl) ?_
    refine bS (by (try simp (disch := omega) only [fwI]); exact nc) ?_
    refine iT rfl ?_
    by_cases h2 : (frontN s).1 = 0
    ·refine iT (dT (by omega)) rfl
    ·refine iF (dF (by omega)) ?_
     rw [dT (by omega)]
   ·cases hh
  ·rw [if_neg hh]
   refine (jS (v := ((3 : Int), (wholeN s : Int))) (fun j => ?_)).trans ?_
   ·refine iT (by first | (simp (disch := omega) only [↓reduceIte, ↓jn, gsL]; done) | rfl) ?_
    refine bS (by (try simp (disch := omega) only [fwI]); exact whole_at hk hk3 hs hl') ?_
    refine bS (by (try simp (disch := omega) only [fwI]); exact front_at hk hk3 hs hl') ?_
    refine (jS (v := false) (fun j => ?_)).trans rfl
    rcases Nat.lt_or_ge (wholeN s) s.length with h | h
    ·obtain ⟨c, r, hc, nc, hm⟩ := nth_hd h
     unfold hashN at hh
     rw [hc] at hh
     simp only [Bool.and_eq_true, decide_eq_true_eq, Bool.or_eq_true] at hh
     refine iT (by first | (simp (disch := omega) only [↓reduceIte, ↓jn, gsL]; done) | rfl) ?_
     refine bS (by (try simp (disch := omega) only [fwI]); exact nc) ?_
     by_cases h35 : c = 35
     ·refine iT (dT (by omega)) ?_
      have h1 : ¬ (frontN s).1 = 0 := fun e => hh ⟨h35, .inl e⟩
      have h2 : ¬ wholeN s < (frontN s).1 := fun e => hh ⟨h35, .inr e⟩
      refine iF (dF (by omega)) ?_
      rw [dF (by omega)]
     ·refine iF (dF (by omega)) rfl
    ·simp (disch := omega) only [↓reduceIte, ↓jn, gsL]
   ·exact fin (wholeN s) 3 wl
 ·rw [if_neg h0]
  refine (jS (v := ((4 : Int), (partN s : Int))) (fun j => ?_)).trans ?_
  ·refine iF (by first | (simp (disch := omega) only [↓reduceIte, ↓jn, gsL]; done) | rfl) ?_
   rfl
  ·exact fin (partN s) 4 pl
theorem note_trm {k : Nat} {s : List Nat} (hs : By s) (hl : Sz s) {q : Nat} {t : List Nat} (hq : s = q :: t) (hq2 : blkN q = false) : ∀ (n f : Nat), n < f → 1 ≤ n → n ≤ s.length → g33_l4 k s f (n : Int) = some ((trmN s n : Nat) : Int)
 | 0, f, hf, h1, h2 => by omega
 | n + 1, f, hf, h1, h2 => by
  have hl' := hl
  unfold Sz at hl
  obtain ⟨f, rfl⟩ : ∃ f', f = f' + 1 := ⟨f - 1, by omega⟩
  rw [g33_l4_s]
  obtain ⟨c, r, hc, hr, hm, hrl⟩ := dcons (s := s) (i := n) (by omega)
  have nc : nthS s (((n + 1 : Nat) : Int) - 1) = some (c : Int) := nthX (i := n) (by omega) hc
  refine bS (by (try simp (disch := omega) only [fwI]); exact nc) ?_
  refine bS (by (try simp (disch := omega) only [fwI]); exact blank_at k (hs c hm)) ?_
  simp only [trmN, hc]
  cases hb : blkN c with
  | true =>
   refine iT rfl ?_
   have e : fwrap .i64 (((n + 1 : Nat) : Int) - 1) = (n : Int) := by rw [fwI (by omega) (by omega)]; omega
   rw [e]
   have hn : 1 ≤ n := by
    rcases Nat.lt_or_ge 0 n with h | h
    ·exact h
    ·exfalso
     obtain rfl : n = 0 := by omega
     rw [List.drop_zero, hq] at hc
     rw [(List.cons.inj hc).1, hb] at hq2
     cases hq2
   clear e
   refine (note_trm hs hl' hq hq2 n f (by omega) hn (by omega)).trans ?_
   rfl
  | false => rfl
theorem note_l (k : Nat) {s : List Nat} (hs : By s) (hl : Sz s) {R : Int → Option Int} (hR : ∀ x, g33_l4 k s k x = R x) : ∀ (f i : Nat), s.length < i + f → i ≤ s.length → g33_l2 k s f (i : Int) = R ((i + lineN (s.drop i) : Nat) : Int)
 | 0, i, h, h2 => by omega
 | f + 1, i, h, h2 => by
  have hl' := hl
  unfold Sz at hl
  rw [g33_l2_s]
  rcases Nat.lt_or_ge i s.length with hi | hi
  ·obtain ⟨c, r, hc, hr, hm, hrl⟩ := dcons hi
   have ih := note_l k hs hl' hR f (i + 1) (by omega) (by omega)
   rw [hr] at ih
   have nc := nthX (x := (i : Int)) rfl hc
   refine (jS (v := (!decide (c = 10), (i : Int))) (fun j => ?_)).trans ?_
   ·refine iT (by first | (simp (disch := omega) only [↓reduceIte, ↓jn, gsL]; done) | rfl) ?_
    refine bS (by (try simp (disch := omega) only [fwI]); exact nc) ?_
    congr 2
    rw [Bool.eq_iff_iff]; simp; omega
   ·rw [hc]
    simp only [lineN]
    by_cases h10 : c = 10
    ·rw [decide_eq_true h10, if_pos h10]
     refine iF rfl ?_
     exact hR _
    ·rw [decide_eq_false h10, if_neg h10]
     refine iT rfl ?_
     rw [fw_s (by omega)]
     refine ih.trans ?_
     congr 1; omega
  ·refine (jS (v := (false, (i : Int))) (fun j => ?_)).trans ?_
   ·simp (disch := omega) only [↓reduceIte, ↓jn, gsL]
   ·refine iF rfl ?_
    rw [dnil hi]
    exact hR _
theorem snote_at {k : Nat} {s : List Nat} (hk : s.length < k) (hs : By s) (hl : Sz s) {t : List Nat} (hq : s = 37 :: t) : g33 k s = some ((cmtN s : Nat) : Int) := by
 have := note_l k hs hl (R := fun x => g33_l4 k s k x) (fun _ => rfl) k 0 (by omega) (by omega)
 refine this.trans ?_
 rw [Nat.zero_add, List.drop_zero]
 have h1 := lineN_le s
 refine note_trm hs hl hq (by decide) (lineN s) k (by omega) ?_ h1
 rw [hq]; simp only [lineN]; simp
theorem macro_at {k : Nat} {s : List Nat} (hk : s.length < k) (hs : By s) (hl : Sz s) {a : Nat} {t : List Nat} (hq : s = a :: t) : g36 k s = some ((macN s : Nat) : Int) := by
 have hl' := hl
 unfold Sz at hl
 unfold g36
 have fin : ∀ n : Nat, n ≤ s.length → 1 ≤ n → ((g53 k s (n : Int)).bind fun x1_2 => (g37 k x1_2).bind fun x1_3 => jn (fun (z5 : Bool) => if z5 then (some (0 : Int)) else ((subL s (some (n : Int)) none).bind fun x2_3 => (g39 k x2_3).bind fun x2_4 => some (fwrap .i64 ((n : Int) + x2_4)))) (fun j5 => if (!decide (x1_3 = 1)) then (j5 (!decide (x1_3 = 2))) else (j5 false))) = some ((mac1 n (s.drop n) : Nat) : Int) := by
  intro n hn h1
  rcases Nat.lt_or_ge n s.length with h | h
  ·obtain ⟨c, r, hc, nc, hm⟩ := nth_hd h
   have ea : g53 k s (n : Int) = some (c : Int) := by
    unfold g53
    refine iF (by first | (simp (disch := omega) only [↓reduceIte, ↓jn, gsL]; done) | rfl) ?_
    refine bS (by (try simp (disch := omega) only [fwI]); exact nc) ?_
    rfl
   refine bS (by (try simp (disch := omega) only [fwI]); exact ea) ?_
   refine bS (by (try simp (disch := omega) only [fwI]); exact begins_at37 k (hs c hm)) ?_
   rw [hc]
   simp only [mac1]
   have il := innN_le (c :: r)
   have dl := drop_len hc
   by_cases hb : begN c = 1 ∨ begN c = 2
   ·rw [if_pos hb]
    refine (jS (v := false) (fun j => ?_)).trans ?_
    ·rcases hb with hb | hb
     ·rw [hb]; rfl
     ·rw [hb]; rfl
    ·refine iF rfl ?_
     refine bS (by (try simp (disch := omega) only [fwI]); exact subFrom (s := s) (x := (n : Int)) (i := n) rfl hn) ?_
     have si := sinner_at (k := k) (s := s.drop n) (by rw [List.length_drop]; omega) (hs.drop n) (by unfold Sz; rw [List.length_drop]; omega)
     refine bS (by (try simp (disch := omega) only [fwI]); exact si) ?_
     rw [hc]
     simp only [List.length_cons] at il
     rw [fw_a (by omega) (by omega)]
   ·rw [if_neg hb]
    refine (jS (v := true) (fun j => ?_)).trans rfl
    refine iT (by first | (simp (disch := omega) only [↓reduceIte, ↓jn, gsL]; done) | rfl) ?_
    rw [dF (by omega)]; rfl
  ·obtain rfl : n = s.length := by omega
   have ea : g53 k s (s.length : Int) = some ((0 : Nat) : Int) := by
    unfold g53
    refine iT (by first | (simp (disch := omega) only [↓reduceIte, ↓jn, gsL]; done) | rfl) ?_
    rfl
   refine bS (by (try simp (disch := omega) only [fwI]); exact ea) ?_
   refine bS (by (try simp (disch := omega) only [fwI]); exact begins_at37 k (c := 0) (by decide)) ?_
   rw [dnil (Nat.le_refl _)]
   rfl
 cases t with
 | nil =>
  subst hq
  refine (jS (v := false) (fun j => rfl)).trans ?_
  refine (jS (v := (1 : Int)) (fun j => rfl)).trans ?_
  exact fin 1 (Nat.le_refl _) (Nat.le_refl _)
 | cons c r =>
  have d1 : s.drop 1 = c :: r := by rw [hq]; rfl
  have d2 : s.drop 2 = r := by rw [hq]; rfl
  have n1 : nthS s 1 = some (c : Int) := nthX (i := 1) rfl d1
  have len : s.length = r.length + 2 := by rw [hq]; rfl
  have es : macN s = if c = 63 then mac1 2 r else mac1 1 (c :: r) := by rw [hq]; rfl
  rw [es]
  by_cases h63 : c = 63
  ·rw [if_pos h63]
   refine (jS (v := true) (fun j => ?_)).trans ?_
   ·refine iT (by first | (simp (disch := omega) only [↓reduceIte, ↓jn, gsL]; done) | rfl) ?_
    refine bS (by (try simp (disch := omega) only [fwI]); exact n1) ?_
    rw [dT (by omega)]
   ·refine (jS (v := ((2 : Nat) : Int)) (fun j => rfl)).trans ?_
    have := fin 2 (by omega) (by omega)
    rw [d2] at this
    exact this
  ·rw [if_neg h63]
   refine (jS (v := false) (fun j => ?_)).trans ?_
   ·refine iT (by first | (simp (disch := omega) only [↓reduceIte, ↓jn, gsL]; done) | rfl) ?_
    refine bS (by (try simp (disch := omega) only [fwI]); exact n1) ?_
    rw [dF (by omega)]
   ·refine (jS (v := ((1 : Nat) : Int)) (fun j => rfl)).trans ?_
    have := fin 1 (by omega) (by omega)
    rw [d1] at this
    exact this
end Go.Proofs.Ytokcjgjgojlhbaa.Am
set_option maxRecDepth 100000
set_option linter.unusedVariables false
namespace Go.Proofs.Ytokcjgjgojlhbaa.Am
noncomputable section
open Go
def X14 : Fx (S28 × Int) := ⟨Try.prog, cx, Try.f14, fun r => .tuple [.agg [.int .i64 r.1.f0, .str r.1.f1, .int .i64 r.1.f2], .int .i64 r.2], 0, fun _ => H0, cxTi, cxOrd⟩
def g14p0 : Pt := nav [0] (bodyAt Try.f14)
def g14p1 : Pt := nav [0, 0, 0, 0] g14p0
def g14p2 : Pt := nav [0, 0] g14p1
def g14p4 : Pt := nav [2, 0, 0] g14p2
def g14p6 : Pt := nav [0, 0, 0, 0] g14p4
def g14p7 : Pt := nav [0, 0] g14p6
def g14p9 : Pt := nav [2, 0, 0] g14p7
def g14 (k : Nat) (a0 : (List Nat)) (a1 : Int) : Option (S28 × Int) :=
 jn (fun (z2 : Bool) => if z2 then (some ((⟨(0 : Int), ([] : List Nat), (0 : Int)⟩ : S28), (4 : Int))) else ((subL a0 (some a1) none).bind fun x0_2 => (g20 k x0_2).bind fun x0_3 => if (decide (x0_3.1 = 0)) then (some ((⟨(0 : Int), ([] : List Nat), (0 : Int)⟩ : S28), (4 : Int))) else ((subL a0 (some a1) (some (fwrap .i64 (a1 + x0_3.1)))).bind fun x1_6 => some ((⟨x0_3.2, x1_6, a1⟩ : S28), (0 : Int))))) (fun j2 => if (decide (a1 < 0)) then (j2 true) else (j2 (decide ((a0.length : Int) ≤ a1))))
theorem g14_ok (k : Nat) (a0 : (List Nat)) (a1 : Int) (r : (S28 × Int)) (h : g14 k a0 a1 = some r) : PureOk Try.prog 14 [.str a0, .int .i64 a1] (.tuple [.agg [.int .i64 r.1.f0, .str r.1.f1, .int .i64 r.1.f2], .int .i64 r.2]) := by
 refine pure_of X14 (fun _ => rfl) Try.func14 (by decide +kernel) (by kernel_rfl) (t := g14 k a0 a1) ?_ h
 unfold g14
 refine ok_env (env' := [(0, .str a0), (1, .int .i64 a1)]) (by kernel_rfl) ?_
 let E1 : Env := [(10, .bool (decide (a1 < 0))), (9, .bool (decide (a1 < 0))), (8, .int .i64 a1), (5, .int .i64 0), (4, .ptr 0 3 0), (0, .str a0), (1, .int .i64 a1)]
 refine ok_run 11 (p' := (atN 3 (ctl1 g14p1))) (env' := E1) (H' := (mkH [⟨[.int .i64 0, .str [], .int .i64 0], 0, false⟩])) (by kernel_rfl) ?_
 refine ok_jn (f := fun (z2 : Bool) => if z2 then (some ((⟨(0 : Int), ([] : List Nat), (0 : Int)⟩ : S28), (4 : Int))) else ((subL a0 (some a1) none).bind fun x0_2 => (g20 k x0_2).bind fun x0_3 => if (decide (x0_3.1 = 0)) then (some ((⟨(0 : Int), ([] : List Nat), (0 : Int)⟩ : S28), (4 : Int))) else ((subL a0 (some a1) (some (fwrap .i64 (a1 + x0_3.1)))).bind fun x1_6 => some ((⟨x0_3.2, x1_6, a1⟩ : S28), (0 : Int))))) g14p2 (fun (z2 : Bool) => [(0, .str a0), (1, .int .i64 a1), (4, .ptr 0 3 0), (15, .bool z2)]) (fun (z2 : Bool) => (mkH [⟨[.int .i64 0, .str [], .int .i64 0], 0, false⟩])) (fun z2 => ?_) (fun j2 hj2 => ?_)
 ·refine ok_split 15 (b := z2) (by kernel_rfl) (fun hb => ?_) (fun hb => ?_)
  ·let E2 : Env := [(5, .int .i64 4), (16, .agg [.int .i64 0, .str [], .int .i64 0]), (15, .bool true), (0, .str a0), (1, .int .i64 a1), (4, .ptr 0 3 0), (15, .bool z2)]
   refine ok_run 8 (p' := .fin) (env' := E2) (H' := (mkH [⟨[.int .i64 0, .str [], .int .i64 0], 3, false⟩])) (by kernel_rfl) ?_
   exact ok_ret (r := ((⟨(0 : Int), ([] : List Nat), (0 : Int)⟩ : S28), (4 : Int))) (xs := [.agg [.int .i64 0, .str [], .int .i64 0], .int .i64 4]) (v := .tuple [.agg [.int .i64 0, .str [], .int .i64 0], .int .i64 4]) (by kernel_rfl) (by kernel_rfl) (by kernel_rfl) (.pures (by kernel_rfl)) (by kernel_rfl)
  ·let E3 : Env := [(19, .int .i64 a1), (18, .str a0), (15, .bool false), (0, .str a0), (1, .int .i64 a1), (4, .ptr 0 3 0), (15, .bool z2)]
   refine ok_run 6 (p' := (atN 2 (ctl1 g14p4))) (env' := E3) (H' := (mkH [⟨[.int .i64 0, .str [], .int .i64 0], 0, false⟩])) (by kernel_rfl) ?_
   refine ok_chk (fun (x0_2 : (List Nat)) => (.str x0_2, (mkH [⟨[.int .i64 0, .str [], .int .i64 0], 0, false⟩]))) (atN 3 (ctl1 g14p4)) (fun x0_2 => ((20, .str x0_2) :: E3)) (subH (some a1) none (by kernel_rfl)) (fun _ => by kernel_rfl) (fun x0_2 hx0_2 => ?_)
   refine ok_call (fun (x0_3 : (Int × Int)) => .tuple [.int .i64 x0_3.1, .int .i64 x0_3.2]) (atN 4 (ctl1 g14p4)) (fun x0_3 => ((21, .tuple [.int .i64 x0_3.1, .int .i64 x0_3.2]) :: (20, .str x0_2) :: E3)) (fi := 20) (args := [.str x0_2]) (by kernel_rfl) (by kernel_rfl) (fun _ => by kernel_rfl) (fun r h => g20_ok k x0_2 r h) (fun _ => by kernel_rfl) (fun x0_3 hx0_3 => ?_)
   let E4 : Env := ((7, .int .i64 x0_3.2) :: (6, .int .i64 x0_3.1) :: (23, .int .i64 x0_3.2) :: (22, .int .i64 x0_3.1) :: (17, .tuple [.int .i64 x0_3.1, .int .i64 x0_3.2]) :: (21, .tuple [.int .i64 x0_3.1, .int .i64 x0_3.2]) :: (20, .str x0_2) :: E3)
   refine ok_run 8 (p' := g14p6) (env' := E4) (H' := (mkH [⟨[.int .i64 0, .str [], .int .i64 0], 0, false⟩])) (by kernel_rfl) ?_
   refine ok_keep [0, 1, 4, 6, 7] (env' := [(0, .str a0), (1, .int .i64 a1), (4, .ptr 0 3 0), (6, .int .i64 x0_3.1), (7, .int .i64 x0_3.2)]) (by kernel_rfl) ?_
   let E5 : Env := [(25, .bool (decide (x0_3.1 = 0))), (24, .int .i64 x0_3.1), (0, .str a0), (1, .int .i64 a1), (4, .ptr 0 3 0), (6, .int .i64 x0_3.1), (7, .int .i64 x0_3.2)]
   refine ok_run 4 (p' := g14p7) (env' := E5) (H' := (mkH [⟨[.int .i64 0, .str [], .int .i64 0], 0, false⟩])) (by kernel_rfl) ?_
   refine ok_split 25 (b := decide (x0_3.1 = 0)) (by kernel_rfl) (fun hb => ?_) (fun hb => ?_)
   ·refine ok_run 8 (p' := .fin) (env' := ((5, .int .i64 4) :: (26, .agg [.int .i64 0, .str [], .int .i64 0]) :: (25, .bool true) :: E5)) (H' := (mkH [⟨[.int .i64 0, .str [], .int .i64 0], 3, false⟩])) (by kernel_rfl) ?_
    exact ok_ret (r := ((⟨(0 : Int), ([] : List Nat), (0 : Int)⟩ : S28), (4 : Int))) (xs := [.agg [.int .i64 0, .str [], .int .i64 0], .int .i64 4]) (v := .tuple [.agg [.int .i64 0, .str [], .int .i64 0], .int .i64 4]) (by kernel_rfl) (by kernel_rfl) (by kernel_rfl) (.pures (by kernel_rfl)) (by kernel_rfl)
   ·let E6 : Env := ((32, .int .i64 (fwrap .i64 (a1 + x0_3.1))) :: (31, .int .i64 x0_3.1) :: (30, .int .i64 a1) :: (29, .int .i64 a1) :: (28, .str a0) :: (27, .int .i64 x0_3.2) :: (25, .bool false) :: E5)
    refine ok_run 10 (p' := (atN 6 (ctl1 g14p9))) (env' := E6) (H' := (mkH [⟨[.int .i64 0, .str [], .int .i64 0], 0, false⟩])) (by kernel_rfl) ?_
    refine ok_chk (fun (x1_6 : (List Nat)) => (.str x1_6, (mkH [⟨[.int .i64 0, .str [], .int .i64 0], 0, false⟩]))) (atN 7 (ctl1 g14p9)) (fun x1_6 => ((33, .str x1_6) :: E6)) (subH (some a1) (some (fwrap .i64 (a1 + x0_3.1))) (by kernel_rfl)) (fun _ => by kernel_rfl) (fun x1_6 hx1_6 => ?_)
    refine ok_run 6 (p' := .fin) (env' := ((5, .int .i64 0) :: (35, .agg [.int .i64 x0_3.2, .str x1_6, .int .i64 a1]) :: (34, .int .i64 a1) :: (33, .str x1_6) :: E6)) (H' := (mkH [⟨[.int .i64 x0_3.2, .str x1_6, .int .i64 a1], 3, false⟩])) (by kernel_rfl) ?_
    exact ok_ret (r := ((⟨x0_3.2, x1_6, a1⟩ : S28), (0 : Int))) (xs := [.agg [.int .i64 x0_3.2, .str x1_6, .int .i64 a1], .int .i64 0]) (v := .tuple [.agg [.int .i64 x0_3.2, .str x1_6, .int .i64 a1], .int .i64 0]) (by kernel_rfl) (by kernel_rfl) (by kernel_rfl) (.pures (by kernel_rfl)) (by kernel_rfl)
 ·refine ok_split 10 (b := decide (a1 < 0)) (by kernel_rfl) (fun hb => ?_) (fun hb => ?_)
  ·let E7 : Env := ((15, .bool true) :: (14, .tuple []) :: (13, .tuple []) :: (12, .tuple []) :: (11, .tuple []) :: (10, .bool true) :: E1)
   refine ok_run 6 (p' := g14p2) (env' := E7) (H' := (mkH [⟨[.int .i64 0, .str [], .int .i64 0], 0, false⟩])) (by kernel_rfl) ?_
   refine ok_keep [0, 1, 4, 15] (env' := [(0, .str a0), (1, .int .i64 a1), (4, .ptr 0 3 0), (15, .bool true)]) (by kernel_rfl) ?_
   exact hj2 true
  ·let E8 : Env := ((15, .bool (decide ((a0.length : Int) ≤ a1))) :: (14, .bool (decide ((a0.length : Int) ≤ a1))) :: (13, .int .i64 (a0.length : Int)) :: (12, .str a0) :: (11, .int .i64 a1) :: (10, .bool false) :: E1)
   refine ok_run 6 (p' := g14p2) (env' := E8) (H' := (mkH [⟨[.int .i64 0, .str [], .int .i64 0], 0, false⟩])) (by kernel_rfl) ?_
   refine ok_keep [0, 1, 4, 15] (env' := [(0, .str a0), (1, .int .i64 a1), (4, .ptr 0 3 0), (15, .bool (decide ((a0.length : Int) ≤ a1)))]) (by kernel_rfl) ?_
   exact hj2 (decide ((a0.length : Int) ≤ a1))
end
end Go.Proofs.Ytokcjgjgojlhbaa.Am
set_option maxRecDepth 100000
set_option linter.unusedVariables false
namespace Go.Proofs.Ytokcjgjgojlhbaa.Am
noncomputable section
open Go
def X11 : Fx ((List S28) × Int) := ⟨Try.prog, cx, Try.f11, fun r => .tuple [.vec (r.1).length 3 ((r.1).flatMap e29), .int .i64 r.2], 0, fun _ => H0, cxTi, cxOrd⟩
def g11p0 : Pt := nav [0] (bodyAt Try.f11)
def g11p1 : Pt := nav [0, 0, 0, 0, 0, 0] g11p0
def g11p2 : Pt := nav [0, 0] g11p1
def g11p4 : Pt := nav [2, 0] g11p2
def g11p6 : Pt := nav [0, 0] g11p4
def g11p8 : Pt := nav [2, 0, 0] g11p6
def g11p9 : Pt := nav [0, 0, 0] g11p8
def g11p10 : Pt := nav [0, 0, 0, 0, 0, 0] g11p9
def g11p11 : Pt := nav [0, 0, 0] g11p10
def g11p12 : Pt := nav [0, 0] g11p11
def g11p14 : Pt := nav [2, 0, 0] g11p12
def g11p15 : Pt := nav [0, 0, 0, 0] g11p14
def g11p16 : Pt := nav [0, 0] g11p15
def g11p18 : Pt := nav [2, 0, 0] g11p16
def g11_l4 (k : Nat)  (a0 : (List Nat)) (n : Nat) : Int → (List S28) → Option ((List S28) × Int) :=
 Nat.rec (motive := fun _ => Int → (List S28) → Option ((List S28) × Int)) (fun _ _ => none) (fun _ ih => fun (y4_0 : Int) (y4_1 : (List S28)) => (g16 k a0 y4_0).bind fun x1_2 => if (decide (x1_2 = (a0.length : Int))) then (some (y4_1, (0 : Int))) else ((g14 k a0 x1_2).bind fun x2_2 => if (!decide (x2_2.2 = 0)) then (some (([] : List S28), x2_2.2)) else ((appS 32 y4_1 ([(⟨x2_2.1.f0, x2_2.1.f1, x2_2.1.f2⟩ : S28)] : List S28)).bind fun x3_3 => ih (fwrap .i64 (x1_2 + (x2_2.1.f1.length : Int))) x3_3))) n
theorem g11_l4_s (k : Nat)  (a0 : (List Nat)) (n : Nat) (y4_0 : Int) (y4_1 : (List S28)) : g11_l4 k a0 (n + 1) y4_0 y4_1 = ((g16 k a0 y4_0).bind fun x1_2 => if (decide (x1_2 = (a0.length : Int))) then (some (y4_1, (0 : Int))) else ((g14 k a0 x1_2).bind fun x2_2 => if (!decide (x2_2.2 = 0)) then (some (([] : List S28), x2_2.2)) else ((appS 32 y4_1 ([(⟨x2_2.1.f0, x2_2.1.f1, x2_2.1.f2⟩ : S28)] : List S28)).bind fun x3_3 => (g11_l4 k a0 n) (fwrap .i64 (x1_2 + (x2_2.1.f1.length : Int))) x3_3))) := rfl
theorem g11_l4_ok (k : Nat)  (a0 : (List Nat))  : ∀ (n : Nat) (y4_0 : Int) (y4_1 : (List S28)), Ok X11 g11p10 [(0, .str a0), (4, .own 0 (y4_1).length 3), (5, .int .i64 y4_0)] (mkH [⟨(y4_1).flatMap e29, 0, false⟩]) (g11_l4 k a0 n y4_0 y4_1)
 | 0, _, _ => ok_none
 | n + 1, y4_0, y4_1 => by
  have ih := g11_l4_ok k a0 n
  rw [g11_l4_s]
  let E5 : Env := [(17, .int .i64 y4_0), (16, .str a0), (0, .str a0), (4, .own 0 (y4_1).length 3), (5, .int .i64 y4_0)]
  refine ok_run 3 (p' := (atN 2 (ctl1 g11p10))) (env' := E5) (H' := (mkH [⟨(y4_1).flatMap e29, 0, false⟩])) (by kernel_rfl) ?_
  refine ok_call (fun (x1_2 : Int) => .int .i64 x1_2) (atN 3 (ctl1 g11p10)) (fun x1_2 => ((18, .int .i64 x1_2) :: E5)) (fi := 16) (args := [.str a0, .int .i64 y4_0]) (by kernel_rfl) (by kernel_rfl) (fun _ => by kernel_rfl) (fun r h => g16_ok k a0 y4_0 r h) (fun _ => by kernel_rfl) (fun x1_2 hx1_2 => ?_)
  let E6 : Env := ((22, .bool (decide (x1_2 = (a0.length : Int)))) :: (21, .int .i64 (a0.length : Int)) :: (20, .str a0) :: (19, .int .i64 x1_2) :: (5, .int .i64 x1_2) :: (18, .int .i64 x1_2) :: E5)
  refine ok_run 9 (p' := g11p12) (env' := E6) (H' := (mkH [⟨(y4_1).flatMap e29, 0, false⟩])) (by kernel_rfl) ?_
  refine ok_keep [0, 4, 5, 22] (env' := [(0, .str a0), (4, .own 0 (y4_1).length 3), (5, .int .i64 x1_2), (22, .bool (decide (x1_2 = (a0.length : Int))))]) (by kernel_rfl) ?_
  refine ok_split 22 (b := decide (x1_2 = (a0.length : Int))) (by kernel_rfl) (fun hb => ?_) (fun hb => ?_)
  ·let E7 : Env := [(3, .int .i64 0), (2, .own 0 (y4_1).length 3), (23, .own 0 (y4_1).length 3), (22, .bool true), (0, .str a0), (4, .own 0 (y4_1).length 3), (5, .int .i64 x1_2), (22, .bool (decide (x1_2 = (a0.length : Int))))]
   refine ok_run 8 (p' := .fin) (env' := E7) (H' := (mkH [⟨(y4_1).flatMap e29, 0, false⟩])) (by kernel_rfl) ?_
   exact ok_ret (r := (y4_1, (0 : Int))) (xs := [.own 0 (y4_1).length 3, .int .i64 0]) (v := .tuple [.vec (y4_1).length 3 ((y4_1).flatMap e29), .int .i64 0]) (by kernel_rfl) (by kernel_rfl) (by kernel_rfl) (.tuple (fz_own e29_len e29_pur rfl rfl (.pures (by kernel_rfl))) (.pures (by kernel_rfl))) (by kernel_rfl)
  ·let E8 : Env := [(26, .int .i64 x1_2), (25, .str a0), (22, .bool false), (0, .str a0), (4, .own 0 (y4_1).length 3), (5, .int .i64 x1_2), (22, .bool (decide (x1_2 = (a0.length : Int))))]
   refine ok_run 6 (p' := (atN 2 (ctl1 g11p14))) (env' := E8) (H' := (mkH [⟨(y4_1).flatMap e29, 0, false⟩])) (by kernel_rfl) ?_
   refine ok_call (fun (x2_2 : (S28 × Int)) => .tuple [.agg [.int .i64 x2_2.1.f0, .str x2_2.1.f1, .int .i64 x2_2.1.f2], .int .i64 x2_2.2]) (atN 3 (ctl1 g11p14)) (fun x2_2 => ((27, .tuple [.agg [.int .i64 x2_2.1.f0, .str x2_2.1.f1, .int .i64 x2_2.1.f2], .int .i64 x2_2.2]) :: E8)) (fi := 14) (args := [.str a0, .int .i64 x1_2]) (by kernel_rfl) (by kernel_rfl) (fun _ => by kernel_rfl) (fun r h => g14_ok k a0 x1_2 r h) (fun _ => by kernel_rfl) (fun x2_2 hx2_2 => ?_)
   let E9 : Env := ((7, .int .i64 x2_2.2) :: (6, .ptr 1 3 0) :: (29, .int .i64 x2_2.2) :: (28, .agg [.int .i64 x2_2.1.f0, .str x2_2.1.f1, .int .i64 x2_2.1.f2]) :: (24, .tuple [.agg [.int .i64 x2_2.1.f0, .str x2_2.1.f1, .int .i64 x2_2.1.f2], .int .i64 x2_2.2]) :: (27, .tuple [.agg [.int .i64 x2_2.1.f0, .str x2_2.1.f1, .int .i64 x2_2.1.f2], .int .i64 x2_2.2]) :: E8)
   refine ok_run 9 (p' := g11p15) (env' := E9) (H' := (mkH [⟨(y4_1).flatMap e29, 0, false⟩, ⟨[.int .i64 x2_2.1.f0, .str x2_2.1.f1, .int .i64 x2_2.1.f2], 3, false⟩])) (by kernel_rfl) ?_
   refine ok_keep [0, 4, 5, 6, 7] (env' := [(0, .str a0), (4, .own 0 (y4_1).length 3), (5, .int .i64 x1_2), (6, .ptr 1 3 0), (7, .int .i64 x2_2.2)]) (by kernel_rfl) ?_
   let E10 : Env := [(31, .bool (!decide (x2_2.2 = 0))), (30, .int .i64 x2_2.2), (0, .str a0), (4, .own 0 (y4_1).length 3), (5, .int .i64 x1_2), (6, .ptr 1 3 0), (7, .int .i64 x2_2.2)]
   refine ok_run 4 (p' := g11p16) (env' := E10) (H' := (mkH [⟨(y4_1).flatMap e29, 0, false⟩, ⟨[.int .i64 x2_2.1.f0, .str x2_2.1.f1, .int .i64 x2_2.1.f2], 3, false⟩])) (by kernel_rfl) ?_
   refine ok_split 31 (b := !decide (x2_2.2 = 0)) (by kernel_rfl) (fun hb => ?_) (fun hb => ?_)
   ·refine ok_run 8 (p' := .fin) (env' := ((3, .int .i64 x2_2.2) :: (2, .nils) :: (32, .int .i64 x2_2.2) :: (31, .bool true) :: E10)) (H' := (mkH [⟨(y4_1).flatMap e29, 0, false⟩, ⟨[.int .i64 x2_2.1.f0, .str x2_2.1.f1, .int .i64 x2_2.1.f2], 3, false⟩])) (by kernel_rfl) ?_
    exact ok_ret (r := (([] : List S28), x2_2.2)) (xs := [.nils, .int .i64 x2_2.2]) (v := .tuple [.vec 0 3 [], .int .i64 x2_2.2]) (by kernel_rfl) (by kernel_rfl) (by kernel_rfl) (.tuple (.nil (.pures (by kernel_rfl))) (.pures (by kernel_rfl))) (by kernel_rfl)
   ·refine ok_run 3 (p' := g11p18) (env' := ((31, .bool false) :: E10)) (H' := (mkH [⟨(y4_1).flatMap e29, 0, false⟩, ⟨[.int .i64 x2_2.1.f0, .str x2_2.1.f1, .int .i64 x2_2.1.f2], 3, false⟩])) (by kernel_rfl) ?_
    refine ok_bind (fun x3_3 hx3_3 => ?_)
    let E11 : Env := [(35, .slice 2 3 0 1 3), (34, .agg [.int .i64 x2_2.1.f0, .str x2_2.1.f1, .int .i64 x2_2.1.f2]), (33, .own 0 (y4_1).length 3), (31, .bool false), (31, .bool (!decide (x2_2.2 = 0))), (30, .int .i64 x2_2.2), (0, .str a0), (4, .own 0 (y4_1).length 3), (5, .int .i64 x1_2), (6, .ptr 1 3 0), (7, .int .i64 x2_2.2)]
    let E12 : Env := ((5, .int .i64 (fwrap .i64 (x1_2 + (x2_2.1.f1.length : Int)))) :: (4, .own 0 (x3_3).length 3) :: (41, .int .i64 (fwrap .i64 (x1_2 + (x2_2.1.f1.length : Int)))) :: (40, .int .i64 (x2_2.1.f1.length : Int)) :: (39, .str x2_2.1.f1) :: (38, .ptr 1 3 1) :: (37, .int .i64 x1_2) :: (36, .own 0 (x3_3).length 3) :: E11)
    refine ok_draw (p' := nav [0] g11p18) (env' := E12) (H' := (mkH [⟨(x3_3).flatMap e29, 0, false⟩, ⟨[.int .i64 x2_2.1.f0, .str x2_2.1.f1, .int .i64 x2_2.1.f2], 3, false⟩, ⟨[.int .i64 x2_2.1.f0, .str x2_2.1.f1, .int .i64 x2_2.1.f2], 0, false⟩])) (hs := [(mkH [⟨(y4_1).flatMap e29, 0, false⟩, ⟨[.int .i64 x2_2.1.f0, .str x2_2.1.f1, .int .i64 x2_2.1.f2], 3, false⟩, ⟨[.int .i64 x2_2.1.f0, .str x2_2.1.f1, .int .i64 x2_2.1.f2], 0, false⟩]), (mkH [⟨(x3_3).flatMap e29, 0, false⟩, ⟨[.int .i64 x2_2.1.f0, .str x2_2.1.f1, .int .i64 x2_2.1.f2], 3, false⟩, ⟨[.int .i64 x2_2.1.f0, .str x2_2.1.f1, .int .i64 x2_2.1.f2], 0, false⟩])]) [(0, 0, 0), (0, 0, 0), (2, 0, 0), (7, 0, 0), (0, 0, 0), (0, 0, 0), (32, 0, 2), (96, 0, 0), (240, 0, 0), (15, 0, 0), (1023, 0, 0)] (by kernel_rfl) (by kernel_rfl) (by kernel_rfl) (opsD_run 3 (l' := (opsAt g11p18).toList.drop 3) (env' := E11) (H' := (mkH [⟨(y4_1).flatMap e29, 0, false⟩, ⟨[.int .i64 x2_2.1.f0, .str x2_2.1.f1, .int .i64 x2_2.1.f2], 3, false⟩, ⟨[.int .i64 x2_2.1.f0, .str x2_2.1.f1, .int .i64 x2_2.1.f2], 0, false⟩])) (hs := [(mkH [⟨(y4_1).flatMap e29, 0, false⟩, ⟨[.int .i64 x2_2.1.f0, .str x2_2.1.f1, .int .i64 x2_2.1.f2], 3, false⟩, ⟨[.int .i64 x2_2.1.f0, .str x2_2.1.f1, .int .i64 x2_2.1.f2], 0, false⟩])]) (by kernel_rfl) (opsD_chk (l' := (opsAt g11p18).toList.drop 4) (env' := ((36, .own 0 (x3_3).length 3) :: E11)) (hs := [(mkH [⟨(x3_3).flatMap e29, 0, false⟩, ⟨[.int .i64 x2_2.1.f0, .str x2_2.1.f1, .int .i64 x2_2.1.f2], 3, false⟩, ⟨[.int .i64 x2_2.1.f0, .str x2_2.1.f1, .int .i64 x2_2.1.f2], 0, false⟩])]) (x := x3_3) (fun (x3_3 : (List S28)) => (.own 0 (x3_3).length 3, (mkH [⟨(x3_3).flatMap e29, 0, false⟩, ⟨[.int .i64 x2_2.1.f0, .str x2_2.1.f1, .int .i64 x2_2.1.f2], 3, false⟩, ⟨[.int .i64 x2_2.1.f0, .str x2_2.1.f1, .int .i64 x2_2.1.f2], 0, false⟩]))) (appH (sz := 3) e29_len rfl e29_one [⟨(y4_1).flatMap e29, 0, false⟩, ⟨[.int .i64 x2_2.1.f0, .str x2_2.1.f1, .int .i64 x2_2.1.f2], 3, false⟩, ⟨[.int .i64 x2_2.1.f0, .str x2_2.1.f1, .int .i64 x2_2.1.f2], 0, false⟩] 0 32 y4_1 ([(⟨x2_2.1.f0, x2_2.1.f1, x2_2.1.f2⟩ : S28)] : List S28) rfl rfl (by kernel_rfl)) hx3_3 (by kernel_rfl) (opsD_run 7 (l' := (opsAt g11p18).toList.drop 11) (env' := E12) (H' := (mkH [⟨(x3_3).flatMap e29, 0, false⟩, ⟨[.int .i64 x2_2.1.f0, .str x2_2.1.f1, .int .i64 x2_2.1.f2], 3, false⟩, ⟨[.int .i64 x2_2.1.f0, .str x2_2.1.f1, .int .i64 x2_2.1.f2], 0, false⟩])) (hs := []) (by kernel_rfl) (.nil)))) (by kernel_rfl) (by kernel_rfl) (by kernel_rfl) ?_
    refine ok_run 5 (p' := g11p10) (env' := E12) (H' := (mkH [⟨(x3_3).flatMap e29, 0, false⟩, ⟨[.int .i64 x2_2.1.f0, .str x2_2.1.f1, .int .i64 x2_2.1.f2], 3, false⟩, ⟨[.int .i64 x2_2.1.f0, .str x2_2.1.f1, .int .i64 x2_2.1.f2], 0, false⟩])) (by kernel_rfl) ?_
    refine ok_keep [0, 4, 5] (env' := [(0, .str a0), (4, .own 0 (x3_3).length 3), (5, .int .i64 (fwrap .i64 (x1_2 + (x2_2.1.f1.length : Int))))]) (by kernel_rfl) ?_
    refine ok_cut [⟨(x3_3).flatMap e29, 0, false⟩] [⟨[.int .i64 x2_2.1.f0, .str x2_2.1.f1, .int .i64 x2_2.1.f2], 3, false⟩, ⟨[.int .i64 x2_2.1.f0, .str x2_2.1.f1, .int .i64 x2_2.1.f2], 0, false⟩] (by kernel_rfl) rfl (by kernel_rfl) ⟨(purs_belows _ (purs_flatMap e29_pur _)), trivial⟩ ?_
    exact ih (fwrap .i64 (x1_2 + (x2_2.1.f1.length : Int))) x3_3
def g11 (k : Nat) (a0 : (List Nat)) : Option ((List S28) × Int) :=
 if (decide (65536 < (a0.length : Int))) then (some (([] : List S28), (3 : Int))) else ((g18 k a0).bind fun x0_1 => if (!x0_1) then (some (([] : List S28), (2 : Int))) else (g11_l4 k a0 k 0 ([] : List S28)))
theorem g11_ok (k : Nat) (a0 : (List Nat)) (r : ((List S28) × Int)) (h : g11 k a0 = some r) : PureOk Try.prog 11 [.str a0] (.tuple [.vec (r.1).length 3 ((r.1).flatMap e29), .int .i64 r.2]) := by
 refine pure_of X11 (fun _ => rfl) Try.func11 (by decide +kernel) (by kernel_rfl) (t := g11 k a0) ?_ h
 unfold g11
 refine ok_env (env' := [(0, .str a0)]) (by kernel_rfl) ?_
 let E1 : Env := [(8, .bool (decide (65536 < (a0.length : Int)))), (11, .bool (decide (65536 < (a0.length : Int)))), (10, .int .i64 (a0.length : Int)), (9, .str a0), (3, .int .i64 0), (2, .nils), (0, .str a0)]
 refine ok_run 15 (p' := g11p2) (env' := E1) (H' := (mkH [])) (by kernel_rfl) ?_
 refine ok_split 8 (b := decide (65536 < (a0.length : Int))) (by kernel_rfl) (fun hb => ?_) (fun hb => ?_)
 ·refine ok_run 7 (p' := .fin) (env' := ((3, .int .i64 3) :: (2, .nils) :: (8, .bool true) :: E1)) (H' := (mkH [])) (by kernel_rfl) ?_
  exact ok_ret (r := (([] : List S28), (3 : Int))) (xs := [.nils, .int .i64 3]) (v := .tuple [.vec 0 3 [], .int .i64 3]) (by kernel_rfl) (by kernel_rfl) (by kernel_rfl) (.tuple (.nil (.pures (by kernel_rfl))) (.pures (by kernel_rfl))) (by kernel_rfl)
 ·refine ok_run 4 (p' := (atN 1 (ctl1 g11p4))) (env' := ((13, .str a0) :: (8, .bool false) :: E1)) (H' := (mkH [])) (by kernel_rfl) ?_
  refine ok_call (fun (x0_1 : Bool) => .bool x0_1) (atN 2 (ctl1 g11p4)) (fun x0_1 => ((14, .bool x0_1) :: (13, .str a0) :: (8, .bool false) :: E1)) (fi := 18) (args := [.str a0]) (by kernel_rfl) (by kernel_rfl) (fun _ => by kernel_rfl) (fun r h => g18_ok k a0 r h) (fun _ => by kernel_rfl) (fun x0_1 hx0_1 => ?_)
  let E2 : Env := ((12, .bool (!x0_1)) :: (15, .bool (!x0_1)) :: (14, .bool x0_1) :: (13, .str a0) :: (8, .bool false) :: E1)
  refine ok_run 3 (p' := g11p6) (env' := E2) (H' := (mkH [])) (by kernel_rfl) ?_
  refine ok_keep [0, 12] (env' := [(0, .str a0), (12, .bool (!x0_1))]) (by kernel_rfl) ?_
  refine ok_split 12 (b := !x0_1) (by kernel_rfl) (fun hb => ?_) (fun hb => ?_)
  ·let E3 : Env := [(3, .int .i64 2), (2, .nils), (12, .bool true), (0, .str a0), (12, .bool (!x0_1))]
   refine ok_run 7 (p' := .fin) (env' := E3) (H' := (mkH [])) (by kernel_rfl) ?_
   exact ok_ret (r := (([] : List S28), (2 : Int))) (xs := [.nils, .int .i64 2]) (v := .tuple [.vec 0 3 [], .int .i64 2]) (by kernel_rfl) (by kernel_rfl) (by kernel_rfl) (.tuple (.nil (.pures (by kernel_rfl))) (.pures (by kernel_rfl))) (by kernel_rfl)
  ·refine ok_run 5 (p' := (atN 1 (ctl1 g11p8))) (env' := [(4, .nils), (12, .bool false), (0, .str a0), (12, .bool (!x0_1))]) (H' := (mkH [])) (by kernel_rfl) ?_
   refine ok_own [] 4 3 rfl (by kernel_rfl) ?_
   refine ok_env (env' := [(4, .own 0 (([] : List S28)).length 3), (4, .nils), (12, .bool false), (0, .str a0), (12, .bool (!x0_1))]) (by kernel_rfl) ?_
   refine ok_heap (H' := (mkH [⟨(([] : List S28)).flatMap e29, 0, false⟩])) (by kernel_rfl) ?_
   let E4 : Env := [(5, .int .i64 0), (4, .own 0 (([] : List S28)).length 3), (4, .nils), (12, .bool false), (0, .str a0), (12, .bool (!x0_1))]
   refine ok_run 9 (p' := g11p10) (env' := E4) (H' := (mkH [⟨(([] : List S28)).flatMap e29, 0, false⟩])) (by kernel_rfl) ?_
   refine ok_keep [0, 4, 5] (env' := [(0, .str a0), (4, .own 0 (([] : List S28)).length 3), (5, .int .i64 0)]) (by kernel_rfl) ?_
   exact (g11_l4_ok k a0 k) 0 ([] : List S28)
end
end Go.Proofs.Ytokcjgjgojlhbaa.Am
set_option maxRecDepth 100000
set_option linter.unusedVariables false
set_option linter.unusedSimpArgs false
namespace Go.Proofs.Ytokcjgjgojlhbaa.Am
open Go
theorem one_at {k : Nat} {s : List Nat} (hk : s.length + 40 < k) (hs : By s) (hl : Sz s) (hne : s ≠ []) : g20 k s = some (((oneN s).1 : Int), ((oneN s).2 : Int)) := by
 have hl' := hl
 unfold Sz at hl
 obtain ⟨c, r, rfl⟩ : ∃ c r, s = c :: r := List.exists_cons_of_ne_nil hne
 unfold g20
 have n0 : nthS (c :: r) 0 = some (c : Int) := nthX (i := 0) rfl rfl
 have c256 := hs.head
 refine bS (by (try simp (disch := omega) only [fwI]); exact n0) ?_
 simp only [oneN]
 by_cases h37 : c = 37
 ·subst h37
  rw [if_pos rfl]
  refine iT rfl ?_
  refine bS (by (try simp (disch := omega) only [fwI]); exact snote_at (by omega) hs hl' rfl) ?_
  rfl
 rw [if_neg h37]
 refine iF (dF (by omega)) ?_
 by_cases h46 : c = 46 ∧ dotN r = true
 ·rw [if_pos h46]
  refine (jS (v := true) (fun j => ?_)).trans rfl
  obtain ⟨rfl, hd⟩ := h46
  refine iT rfl ?_
  cases r with
  | nil => rfl
  | cons d q =>
   have n1 : nthS (46 :: d :: q) 1 = some (d : Int) := nthX (i := 1) rfl rfl
   have d256 := hs.tail.head
   simp only [List.length_cons]
   refine iF (by first | (simp (disch := omega) only [↓reduceIte, ↓jn, gsL]; done) | rfl) ?_
   refine bS (by (try simp (disch := omega) only [fwI]); exact n1) ?_
   refine bS (by (try simp (disch := omega) only [fwI]); exact blank_at k d256) ?_
   simp only [dotN] at hd
   cases hb : blkN d with
   | true => rfl
   | false =>
    rw [hb, Bool.false_or, decide_eq_true_eq] at hd
    refine iF rfl ?_
    refine bS (by (try simp (disch := omega) only [fwI]); exact n1) ?_
    rw [dT (by omega)]
 ·rw [if_neg h46]
  refine (jS (v := false) (fun j => ?_)).trans ?_
  ·by_cases hc : c = 46
   ·subst hc
    refine iT rfl ?_
    have hd : ¬ dotN r = true := fun h => h46 ⟨rfl, h⟩
    cases r with
    | nil => exact absurd rfl hd
    | cons d q =>
     have n1 : nthS (46 :: d :: q) 1 = some (d : Int) := nthX (i := 1) rfl rfl
     have d256 := hs.tail.head
     simp only [dotN, Bool.or_eq_true, decide_eq_true_eq, not_or] at hd
     simp only [List.length_cons]
     refine iF (by first | (simp (disch := omega) only [↓reduceIte, ↓jn, gsL]; done) | rfl) ?_
     refine bS (by (try simp (disch := omega) only [fwI]); exact n1) ?_
     refine bS (by (try simp (disch := omega) only [fwI]); exact blank_at k d256) ?_
     refine iF (by simpa using hd.1) ?_
     refine bS (by (try simp (disch := omega) only [fwI]); exact n1) ?_
     rw [dF (by omega)]
   ·refine iF (dF (by omega)) rfl
  ·refine iF rfl ?_
   by_cases h39 : c = 39
   ·subst h39
    rw [if_pos rfl]
    refine iT rfl ?_
    refine bS (by (try simp (disch := omega) only [fwI]); exact quoted_at (by omega) hs hl' rfl (.inl rfl)) ?_
    rfl
   rw [if_neg h39]
   refine iF (dF (by omega)) ?_
   by_cases h34 : c = 34
   ·subst h34
    rw [if_pos rfl]
    refine iT rfl ?_
    refine bS (by (try simp (disch := omega) only [fwI]); exact quoted_at (by omega) hs hl' rfl (.inr rfl)) ?_
    rfl
   rw [if_neg h34]
   refine iF (dF (by omega)) ?_
   by_cases h36 : c = 36
   ·subst h36
    rw [if_pos rfl]
    refine iT rfl ?_
    refine bS (by (try simp (disch := omega) only [fwI]); exact char_at (by omega) hs hl' rfl) ?_
    rfl
   rw [if_neg h36]
   refine iF (dF (by omega)) ?_
   by_cases h63 : c = 63
   ·subst h63
    rw [if_pos rfl]
    refine iT rfl ?_
    refine bS (by (try simp (disch := omega) only [fwI]); exact macro_at (by omega) hs hl' rfl) ?_
    rfl
   rw [if_neg h63]
   refine iF (dF (by omega)) ?_
   refine bS (by (try simp (disch := omega) only [fwI]); exact begins_at37 k c256) ?_
   by_cases h3 : begN c = 3
   ·rw [if_pos h3]
    refine iT (dT (by omega)) ?_
    refine bS (by (try simp (disch := omega) only [fwI]); exact number_at (by omega) (by omega) hs hl') ?_
    rfl
   rw [if_neg h3]
   refine iF (dF (by omega)) ?_
   by_cases h12 : begN c = 1 ∨ begN c = 2
   ·rw [if_pos h12]
    refine (jS (v := true) (fun j => ?_)).trans ?_
    ·rcases h12 with h | h
     ·refine iT (dT (by omega)) rfl
     ·refine iF (dF (by omega)) ?_
      rw [dT (by omega)]
    ·refine iT rfl ?_
     refine bS (by (try simp (disch := omega) only [fwI]); exact sinner_at (by omega) hs hl') ?_
     have il := innN_le (c :: r)
     refine bS (by (try simp (disch := omega) only [fwI]); exact subTo (s := c :: r) (x := (innN (c :: r) : Int)) (i := innN (c :: r)) rfl il) ?_
     refine bS (by (try simp (disch := omega) only [fwI]); exact reserved_at k _) ?_
     cases rsvN ((c :: r).take (innN (c :: r))) <;> rfl
   ·rw [if_neg h12]
    refine (jS (v := false) (fun j => ?_)).trans ?_
    ·refine iF (dF (by omega)) ?_
     rw [dF (by omega)]
    ·refine iF rfl ?_
     refine bS (by (try simp (disch := omega) only [fwI]); exact longest_at k (s := c :: r) (by simp)) ?_
     rfl
theorem One_at {k : Nat} {s : List Nat} (hk : s.length + 40 < k) (hs : By s) (hl : Sz s) {a : Nat} (ha : a < s.length) : g14 k s (a : Int) = some (oneAt s a) := by
 have hl' := hl
 unfold Sz at hl
 unfold g14 oneAt
 refine (jS (v := false) (fun j => by simp (disch := omega) only [↓reduceIte, ↓jn, gsL])).trans ?_
 refine iF rfl ?_
 refine bS (by (try simp (disch := omega) only [fwI]); exact subFrom (s := s) (x := (a : Int)) (i := a) rfl (by omega)) ?_
 have hne : s.drop a ≠ [] := drop_lt ha
 refine bS (by (try simp (disch := omega) only [fwI]); exact one_at (s := s.drop a) (by rw [List.length_drop]; omega) (hs.drop a) (by unfold Sz; rw [List.length_drop]; omega) hne) ?_
 have ol := oneN_le (s.drop a)
 rw [List.length_drop] at ol
 by_cases h0 : (oneN (s.drop a)).1 = 0
 ·rw [if_pos h0]
  refine iT (dT (by omega)) rfl
 ·rw [if_neg h0]
  refine iF (dF (by omega)) ?_
  rw [fw_a (by omega) (by omega)]
  refine bS (by (try simp (disch := omega) only [fwI]); exact subMid (s := s) (x := (a : Int)) (y := ((a + (oneN (s.drop a)).1 : Nat) : Int)) (i := a) (j := a + (oneN (s.drop a)).1) rfl rfl (by omega) (by omega)) ?_
  rw [List.drop_take, Nat.add_sub_cancel_left]
  rfl
theorem scan_l (k : Nat) {s : List Nat} (hk : s.length + 40 < k) (hs : By s) (hl : Sz s) (h16 : s.length ≤ 65536) : ∀ (d f a : Nat) (acc : List S28), s.length < a + d → d < f → a ≤ s.length → acc.length ≤ a → g11_l4 k s f (a : Int) acc = some (match toksN s d a with | some l => (acc ++ l.map (mkTok s), 0) | none => ([], 4))
 | 0, f, a, acc, h, hf, ha, hacc => by omega
 | d + 1, f, a, acc, h, hf, ha, hacc => by
  have hl' := hl
  unfold Sz at hl
  obtain ⟨f, rfl⟩ : ∃ f', f = f' + 1 := ⟨f - 1, by omega⟩
  rw [g11_l4_s]
  have sl := skipN_le (s.drop a)
  rw [List.length_drop] at sl
  refine bS (by (try simp (disch := omega) only [fwI]); exact sblank_at (by omega) hs hl' ha) ?_
  unfold toksN
  have hab : a ≤ a + skipN (s.drop a) := Nat.le_add_right _ _
  have hbl : a + skipN (s.drop a) ≤ s.length := by omega
  generalize a + skipN (s.drop a) = b at *
  by_cases hb : s.length ≤ b
  ·rw [if_pos hb]
   refine iT (dT (by omega)) ?_
   simp only [List.map_nil, List.append_nil]
  ·rw [if_neg hb]
   refine iF (dF (by omega)) ?_
   refine bS (by (try simp (disch := omega) only [fwI]); exact One_at hk hs hl' (a := b) (by omega)) ?_
   have ol := oneN_le (s.drop b)
   rw [List.length_drop] at ol
   unfold oneAt
   by_cases h0 : (oneN (s.drop b)).1 = 0
   ·rw [if_pos h0, if_pos h0]; rfl
   ·rw [if_neg h0, if_neg h0]
    refine iF rfl ?_
    have ap : appS 32 acc [mkTok s ((oneN (s.drop b)).2, b, (oneN (s.drop b)).1)] = some (acc ++ [mkTok s ((oneN (s.drop b)).2, b, (oneN (s.drop b)).1)]) := by
     unfold appS
     rw [if_pos (by simp only [List.length_cons, List.length_nil]; omega)]
    refine bS (by (try simp (disch := omega) only [fwI]); exact ap) ?_
    have tl : ((s.drop b).take (oneN (s.drop b)).1).length = (oneN (s.drop b)).1 := by
     rw [List.length_take, List.length_drop]; omega
    show g11_l4 k s f (fwrap .i64 ((b : Int) + (((s.drop b).take (oneN (s.drop b)).1).length : Int))) _ = _
    rw [tl, fw_a (by omega) (by omega)]
    have hpos : 0 < (oneN (s.drop b)).1 := Nat.pos_of_ne_zero h0
    refine (scan_l k hk hs hl' h16 d f (b + (oneN (s.drop b)).1) _ (by omega) (by omega) (by omega) (by rw [List.length_append]; simp only [List.length_cons, List.length_nil]; omega)).trans ?_
    cases toksN s d (b + (oneN (s.drop b)).1) with
    | none => rfl
    | some l => simp only [Option.map_some, List.map_cons, List.append_assoc, List.singleton_append]
theorem scan_at {k : Nat} {s : List Nat} (hk : s.length + 40 < k) (hs : By s) (hl : Sz s) : g11 k s = some (scanN s) := by
 have hl' := hl
 unfold Sz at hl
 unfold g11 scanN
 by_cases h16 : 65536 < s.length
 ·rw [if_pos h16]
  refine iT (dT (by omega)) rfl
 ·rw [if_neg h16]
  refine iF (dF (by omega)) ?_
  refine bS (by (try simp (disch := omega) only [fwI]); exact valid_at18 (by omega) hs hl') ?_
  cases hv : vld s.length s with
  | false => rfl
  | true =>
   refine iF rfl ?_
   refine (scan_l k hk hs hl' (by omega) (s.length + 1) k 0 [] (by omega) (by omega) (by omega) (Nat.le_refl _)).trans ?_
   simp only [Bool.true_eq_false, if_false]
   cases toksN s (s.length + 1) 0 <;> rfl
end Go.Proofs.Ytokcjgjgojlhbaa.Am
set_option maxRecDepth 100000
set_option linter.unusedVariables false
namespace Go.Proofs.Ytokcjgjgojlhbaa.Am
noncomputable section
open Go
def X10 : Fx Bool := ⟨Try.prog, cx, Try.f10, fun r => .bool r, 0, fun _ => H0, cxTi, cxOrd⟩
def g10c0 : List Nat := [97, 46, 98, 46, 32, 37, 99, 32, 10]
def g10c1 : List Nat := [49, 46, 53, 101, 51, 120]
def g10p0 : Pt := nav [0] (bodyAt Try.f10)
def g10p1 : Pt := nav [0, 0, 0] g10p0
def g10p2 : Pt := nav [0, 0, 0] g10p1
def g10p3 : Pt := nav [0, 0, 0] g10p2
def g10p4 : Pt := nav [0, 0, 0] g10p3
def g10p5 : Pt := nav [0, 0, 0] g10p4
def g10 (k : Nat)  : Option Bool :=
 (g11 k g10c0).bind fun x0_0 => (g11 k ([39, 97] : List Nat)).bind fun x1_0 => (g11 k ([255] : List Nat)).bind fun x2_0 => (g14 k g10c1 (0 : Int)).bind fun x3_0 => if (decide (x0_0.2 = 0)) then (if (decide ((x0_0.1.length : Int) = 5)) then ((nthL x0_0.1 1).bind fun x4_9 => if (decide (x4_9.f0 = 9)) then ((nthL x0_0.1 3).bind fun x4_16 => if (decide (x4_16.f0 = 10)) then ((nthL x0_0.1 4).bind fun x4_23 => if (decide (x4_23.f0 = 11)) then ((nthL x0_0.1 4).bind fun x4_30 => if (eqL x4_30.f1 [37, 99]) then (if (decide (x1_0.2 = 4)) then (if (decide (x2_0.2 = 2)) then (if (decide (x3_0.2 = 4)) then (if (decide (x3_0.1.f0 = 0)) then ((g16 k ([32, 10, 32, 120] : List Nat) (0 : Int)).bind fun x4_53 => some (decide (x4_53 = 3))) else (some false)) else (some false)) else (some false)) else (some false)) else (some false)) else (some false)) else (some false)) else (some false)) else (some false)) else (some false)
theorem g10_ok (k : Nat)  (r : Bool) (h : g10 k  = some r) : PureOk Try.prog 10 [] (.bool r) := by
 refine pure_of X10 (fun _ => rfl) Try.func10 (by decide +kernel) (by kernel_rfl) (t := g10 k ) ?_ h
 unfold g10
 refine ok_env (env' := []) (by kernel_rfl) ?_
 refine ok_run 6 (p' := (atN 0 (ctl1 g10p1))) (env' := [(0, .bool false)]) (H' := (mkH [])) (by kernel_rfl) ?_
 refine ok_call (fun (x0_0 : ((List S28) × Int)) => .tuple [.vec (x0_0.1).length 3 ((x0_0.1).flatMap e29), .int .i64 x0_0.2]) (atN 1 (ctl1 g10p1)) (fun x0_0 => [(10, .tuple [.vec (x0_0.1).length 3 ((x0_0.1).flatMap e29), .int .i64 x0_0.2]), (0, .bool false)]) (fi := 11) (args := [.str g10c0]) (by kernel_rfl) (by kernel_rfl) (fun _ => by kernel_rfl) (fun r h => g11_ok k g10c0 r h) (fun _ => by kernel_rfl) (fun x0_0 hx0_0 => ?_)
 let E1 : Env := [(2, .int .i64 x0_0.2), (1, .vec (x0_0.1).length 3 ((x0_0.1).flatMap e29)), (12, .int .i64 x0_0.2), (11, .vec (x0_0.1).length 3 ((x0_0.1).flatMap e29)), (9, .tuple [.vec (x0_0.1).length 3 ((x0_0.1).flatMap e29), .int .i64 x0_0.2]), (10, .tuple [.vec (x0_0.1).length 3 ((x0_0.1).flatMap e29), .int .i64 x0_0.2]), (0, .bool false)]
 refine ok_run 8 (p' := (atN 0 (ctl1 g10p2))) (env' := E1) (H' := (mkH [])) (by kernel_rfl) ?_
 refine ok_call (fun (x1_0 : ((List S28) × Int)) => .tuple [.vec (x1_0.1).length 3 ((x1_0.1).flatMap e29), .int .i64 x1_0.2]) (atN 1 (ctl1 g10p2)) (fun x1_0 => ((14, .tuple [.vec (x1_0.1).length 3 ((x1_0.1).flatMap e29), .int .i64 x1_0.2]) :: E1)) (fi := 11) (args := [.str [39, 97]]) (by kernel_rfl) (by kernel_rfl) (fun _ => by kernel_rfl) (fun r h => g11_ok k ([39, 97] : List Nat) r h) (fun _ => by kernel_rfl) (fun x1_0 hx1_0 => ?_)
 let E2 : Env := ((4, .int .i64 x1_0.2) :: (3, .vec (x1_0.1).length 3 ((x1_0.1).flatMap e29)) :: (16, .int .i64 x1_0.2) :: (15, .vec (x1_0.1).length 3 ((x1_0.1).flatMap e29)) :: (13, .tuple [.vec (x1_0.1).length 3 ((x1_0.1).flatMap e29), .int .i64 x1_0.2]) :: (14, .tuple [.vec (x1_0.1).length 3 ((x1_0.1).flatMap e29), .int .i64 x1_0.2]) :: E1)
 refine ok_run 7 (p' := g10p3) (env' := E2) (H' := (mkH [])) (by kernel_rfl) ?_
 refine ok_keep [1, 2, 4] (env' := [(1, .vec (x0_0.1).length 3 ((x0_0.1).flatMap e29)), (2, .int .i64 x0_0.2), (4, .int .i64 x1_0.2)]) (by kernel_rfl) ?_
 refine ok_run 1 (p' := (atN 0 (ctl1 g10p3))) (env' := [(1, .vec (x0_0.1).length 3 ((x0_0.1).flatMap e29)), (2, .int .i64 x0_0.2), (4, .int .i64 x1_0.2)]) (H' := (mkH [])) (by kernel_rfl) ?_
 refine ok_call (fun (x2_0 : ((List S28) × Int)) => .tuple [.vec (x2_0.1).length 3 ((x2_0.1).flatMap e29), .int .i64 x2_0.2]) (atN 1 (ctl1 g10p3)) (fun x2_0 => [(18, .tuple [.vec (x2_0.1).length 3 ((x2_0.1).flatMap e29), .int .i64 x2_0.2]), (1, .vec (x0_0.1).length 3 ((x0_0.1).flatMap e29)), (2, .int .i64 x0_0.2), (4, .int .i64 x1_0.2)]) (fi := 11) (args := [.str [255]]) (by kernel_rfl) (by kernel_rfl) (fun _ => by kernel_rfl) (fun r h => g11_ok k ([255] : List Nat) r h) (fun _ => by kernel_rfl) (fun x2_0 hx2_0 => ?_)
 let E3 : Env := [(6, .int .i64 x2_0.2), (5, .vec (x2_0.1).length 3 ((x2_0.1).flatMap e29)), (20, .int .i64 x2_0.2), (19, .vec (x2_0.1).length 3 ((x2_0.1).flatMap e29)), (17, .tuple [.vec (x2_0.1).length 3 ((x2_0.1).flatMap e29), .int .i64 x2_0.2]), (18, .tuple [.vec (x2_0.1).length 3 ((x2_0.1).flatMap e29), .int .i64 x2_0.2]), (1, .vec (x0_0.1).length 3 ((x0_0.1).flatMap e29)), (2, .int .i64 x0_0.2), (4, .int .i64 x1_0.2)]
 refine ok_run 8 (p' := (atN 0 (ctl1 g10p4))) (env' := E3) (H' := (mkH [])) (by kernel_rfl) ?_
 refine ok_call (fun (x3_0 : (S28 × Int)) => .tuple [.agg [.int .i64 x3_0.1.f0, .str x3_0.1.f1, .int .i64 x3_0.1.f2], .int .i64 x3_0.2]) (atN 1 (ctl1 g10p4)) (fun x3_0 => ((22, .tuple [.agg [.int .i64 x3_0.1.f0, .str x3_0.1.f1, .int .i64 x3_0.1.f2], .int .i64 x3_0.2]) :: E3)) (fi := 14) (args := [.str g10c1, .int .i64 0]) (by kernel_rfl) (by kernel_rfl) (fun _ => by kernel_rfl) (fun r h => g14_ok k g10c1 (0 : Int) r h) (fun _ => by kernel_rfl) (fun x3_0 hx3_0 => ?_)
 let E4 : Env := ((8, .int .i64 x3_0.2) :: (7, .ptr 0 3 0) :: (24, .int .i64 x3_0.2) :: (23, .agg [.int .i64 x3_0.1.f0, .str x3_0.1.f1, .int .i64 x3_0.1.f2]) :: (21, .tuple [.agg [.int .i64 x3_0.1.f0, .str x3_0.1.f1, .int .i64 x3_0.1.f2], .int .i64 x3_0.2]) :: (22, .tuple [.agg [.int .i64 x3_0.1.f0, .str x3_0.1.f1, .int .i64 x3_0.1.f2], .int .i64 x3_0.2]) :: E3)
 refine ok_run 8 (p' := g10p5) (env' := E4) (H' := (mkH [⟨[.int .i64 x3_0.1.f0, .str x3_0.1.f1, .int .i64 x3_0.1.f2], 3, false⟩])) (by kernel_rfl) ?_
 refine ok_keep [1, 2, 4, 6, 7, 8] (env' := [(1, .vec (x0_0.1).length 3 ((x0_0.1).flatMap e29)), (2, .int .i64 x0_0.2), (4, .int .i64 x1_0.2), (6, .int .i64 x2_0.2), (7, .ptr 0 3 0), (8, .int .i64 x3_0.2)]) (by kernel_rfl) ?_
 let E5 : Env := [(27, .bool (decide (x0_0.2 = 0))), (26, .bool (decide (x0_0.2 = 0))), (25, .int .i64 x0_0.2), (1, .vec (x0_0.1).length 3 ((x0_0.1).flatMap e29)), (2, .int .i64 x0_0.2), (4, .int .i64 x1_0.2), (6, .int .i64 x2_0.2), (7, .ptr 0 3 0), (8, .int .i64 x3_0.2)]
 refine ok_run 4 (p' := (atN 3 (ctl1 g10p5))) (env' := E5) (H' := (mkH [⟨[.int .i64 x3_0.1.f0, .str x3_0.1.f1, .int .i64 x3_0.1.f2], 3, false⟩])) (by kernel_rfl) ?_
 refine ok_split 27 (b := decide (x0_0.2 = 0)) (by kernel_rfl) (fun hb => ?_) (fun hb => ?_)
 ·let E6 : Env := ((32, .bool (decide ((x0_0.1.length : Int) = 5))) :: (31, .bool (decide ((x0_0.1.length : Int) = 5))) :: (30, .bool (decide ((x0_0.1.length : Int) = 5))) :: (29, .int .i64 (x0_0.1.length : Int)) :: (28, .vec (x0_0.1).length 3 ((x0_0.1).flatMap e29)) :: (27, .bool true) :: E5)
  refine ok_run 5 (p' := (atN 8 (ctl1 g10p5))) (env' := E6) (H' := (mkH [⟨[.int .i64 x3_0.1.f0, .str x3_0.1.f1, .int .i64 x3_0.1.f2], 3, false⟩])) (by kernel_rfl) ?_
  refine ok_split 32 (b := decide ((x0_0.1.length : Int) = 5)) (by kernel_rfl) (fun hb => ?_) (fun hb => ?_)
  ·refine ok_run 1 (p' := (atN 9 (ctl1 g10p5))) (env' := ((33, .vec (x0_0.1).length 3 ((x0_0.1).flatMap e29)) :: (32, .bool true) :: E6)) (H' := (mkH [⟨[.int .i64 x3_0.1.f0, .str x3_0.1.f1, .int .i64 x3_0.1.f2], 3, false⟩])) (by kernel_rfl) ?_
   refine ok_chk (fun (x4_9 : S28) => (.vptr [.int .i64 x4_9.f0, .str x4_9.f1, .int .i64 x4_9.f2], (mkH [⟨[.int .i64 x3_0.1.f0, .str x3_0.1.f1, .int .i64 x3_0.1.f2], 3, false⟩]))) (atN 10 (ctl1 g10p5)) (fun x4_9 => ((34, .vptr [.int .i64 x4_9.f0, .str x4_9.f1, .int .i64 x4_9.f2]) :: (33, .vec (x0_0.1).length 3 ((x0_0.1).flatMap e29)) :: (32, .bool true) :: E6)) (vidxH (sz := 3) e29_len (by kernel_rfl)) (fun _ => by kernel_rfl) (fun x4_9 hx4_9 => ?_)
   let E7 : Env := ((39, .bool (decide (x4_9.f0 = 9))) :: (38, .bool (decide (x4_9.f0 = 9))) :: (37, .bool (decide (x4_9.f0 = 9))) :: (36, .int .i64 x4_9.f0) :: (35, .vptr [.int .i64 x4_9.f0, .str x4_9.f1, .int .i64 x4_9.f2]) :: (34, .vptr [.int .i64 x4_9.f0, .str x4_9.f1, .int .i64 x4_9.f2]) :: (33, .vec (x0_0.1).length 3 ((x0_0.1).flatMap e29)) :: (32, .bool true) :: E6)
   refine ok_run 5 (p' := (atN 15 (ctl1 g10p5))) (env' := E7) (H' := (mkH [⟨[.int .i64 x3_0.1.f0, .str x3_0.1.f1, .int .i64 x3_0.1.f2], 3, false⟩])) (by kernel_rfl) ?_
   refine ok_split 39 (b := decide (x4_9.f0 = 9)) (by kernel_rfl) (fun hb => ?_) (fun hb => ?_)
   ·refine ok_run 1 (p' := (atN 16 (ctl1 g10p5))) (env' := ((40, .vec (x0_0.1).length 3 ((x0_0.1).flatMap e29)) :: (39, .bool true) :: E7)) (H' := (mkH [⟨[.int .i64 x3_0.1.f0, .str x3_0.1.f1, .int .i64 x3_0.1.f2], 3, false⟩])) (by kernel_rfl) ?_
    refine ok_chk (fun (x4_16 : S28) => (.vptr [.int .i64 x4_16.f0, .str x4_16.f1, .int .i64 x4_16.f2], (mkH [⟨[.int .i64 x3_0.1.f0, .str x3_0.1.f1, .int .i64 x3_0.1.f2], 3, false⟩]))) (atN 17 (ctl1 g10p5)) (fun x4_16 => ((41, .vptr [.int .i64 x4_16.f0, .str x4_16.f1, .int .i64 x4_16.f2]) :: (40, .vec (x0_0.1).length 3 ((x0_0.1).flatMap e29)) :: (39, .bool true) :: E7)) (vidxH (sz := 3) e29_len (by kernel_rfl)) (fun _ => by kernel_rfl) (fun x4_16 hx4_16 => ?_)
    let E8 : Env := ((46, .bool (decide (x4_16.f0 = 10))) :: (45, .bool (decide (x4_16.f0 = 10))) :: (44, .bool (decide (x4_16.f0 = 10))) :: (43, .int .i64 x4_16.f0) :: (42, .vptr [.int .i64 x4_16.f0, .str x4_16.f1, .int .i64 x4_16.f2]) :: (41, .vptr [.int .i64 x4_16.f0, .str x4_16.f1, .int .i64 x4_16.f2]) :: (40, .vec (x0_0.1).length 3 ((x0_0.1).flatMap e29)) :: (39, .bool true) :: E7)
    refine ok_run 5 (p' := (atN 22 (ctl1 g10p5))) (env' := E8) (H' := (mkH [⟨[.int .i64 x3_0.1.f0, .str x3_0.1.f1, .int .i64 x3_0.1.f2], 3, false⟩])) (by kernel_rfl) ?_
    refine ok_split 46 (b := decide (x4_16.f0 = 10)) (by kernel_rfl) (fun hb => ?_) (fun hb => ?_)
    ·refine ok_run 1 (p' := (atN 23 (ctl1 g10p5))) (env' := ((47, .vec (x0_0.1).length 3 ((x0_0.1).flatMap e29)) :: (46, .bool true) :: E8)) (H' := (mkH [⟨[.int .i64 x3_0.1.f0, .str x3_0.1.f1, .int .i64 x3_0.1.f2], 3, false⟩])) (by kernel_rfl) ?_
     refine ok_chk (fun (x4_23 : S28) => (.vptr [.int .i64 x4_23.f0, .str x4_23.f1, .int .i64 x4_23.f2], (mkH [⟨[.int .i64 x3_0.1.f0, .str x3_0.1.f1, .int .i64 x3_0.1.f2], 3, false⟩]))) (atN 24 (ctl1 g10p5)) (fun x4_23 => ((48, .vptr [.int .i64 x4_23.f0, .str x4_23.f1, .int .i64 x4_23.f2]) :: (47, .vec (x0_0.1).length 3 ((x0_0.1).flatMap e29)) :: (46, .bool true) :: E8)) (vidxH (sz := 3) e29_len (by kernel_rfl)) (fun _ => by kernel_rfl) (fun x4_23 hx4_23 => ?_)
     let E9 : Env := ((53, .bool (decide (x4_23.f0 = 11))) :: (52, .bool (decide (x4_23.f0 = 11))) :: (51, .bool (decide (x4_23.f0 = 11))) :: (50, .int .i64 x4_23.f0) :: (49, .vptr [.int .i64 x4_23.f0, .str x4_23.f1, .int .i64 x4_23.f2]) :: (48, .vptr [.int .i64 x4_23.f0, .str x4_23.f1, .int .i64 x4_23.f2]) :: (47, .vec (x0_0.1).length 3 ((x0_0.1).flatMap e29)) :: (46, .bool true) :: E8)
     refine ok_run 5 (p' := (atN 29 (ctl1 g10p5))) (env' := E9) (H' := (mkH [⟨[.int .i64 x3_0.1.f0, .str x3_0.1.f1, .int .i64 x3_0.1.f2], 3, false⟩])) (by kernel_rfl) ?_
     refine ok_split 53 (b := decide (x4_23.f0 = 11)) (by kernel_rfl) (fun hb => ?_) (fun hb => ?_)
     ·refine ok_run 1 (p' := (atN 30 (ctl1 g10p5))) (env' := ((54, .vec (x0_0.1).length 3 ((x0_0.1).flatMap e29)) :: (53, .bool true) :: E9)) (H' := (mkH [⟨[.int .i64 x3_0.1.f0, .str x3_0.1.f1, .int .i64 x3_0.1.f2], 3, false⟩])) (by kernel_rfl) ?_
      refine ok_chk (fun (x4_30 : S28) => (.vptr [.int .i64 x4_30.f0, .str x4_30.f1, .int .i64 x4_30.f2], (mkH [⟨[.int .i64 x3_0.1.f0, .str x3_0.1.f1, .int .i64 x3_0.1.f2], 3, false⟩]))) (atN 31 (ctl1 g10p5)) (fun x4_30 => ((55, .vptr [.int .i64 x4_30.f0, .str x4_30.f1, .int .i64 x4_30.f2]) :: (54, .vec (x0_0.1).length 3 ((x0_0.1).flatMap e29)) :: (53, .bool true) :: E9)) (vidxH (sz := 3) e29_len (by kernel_rfl)) (fun _ => by kernel_rfl) (fun x4_30 hx4_30 => ?_)
      let E10 : Env := ((60, .bool (eqL x4_30.f1 [37, 99])) :: (59, .bool (eqL x4_30.f1 [37, 99])) :: (58, .bool (eqL x4_30.f1 [37, 99])) :: (57, .str x4_30.f1) :: (56, .vptr [.str x4_30.f1, .int .i64 x4_30.f2]) :: (55, .vptr [.int .i64 x4_30.f0, .str x4_30.f1, .int .i64 x4_30.f2]) :: (54, .vec (x0_0.1).length 3 ((x0_0.1).flatMap e29)) :: (53, .bool true) :: E9)
      refine ok_run 5 (p' := (atN 36 (ctl1 g10p5))) (env' := E10) (H' := (mkH [⟨[.int .i64 x3_0.1.f0, .str x3_0.1.f1, .int .i64 x3_0.1.f2], 3, false⟩])) (by kernel_rfl) ?_
      refine ok_split 60 (b := eqL x4_30.f1 [37, 99]) (by kernel_rfl) (fun hb => ?_) (fun hb => ?_)
      ·let E11 : Env := ((64, .bool (decide (x1_0.2 = 4))) :: (63, .bool (decide (x1_0.2 = 4))) :: (62, .bool (decide (x1_0.2 = 4))) :: (61, .int .i64 x1_0.2) :: (60, .bool true) :: E10)
       refine ok_run 4 (p' := (atN 40 (ctl1 g10p5))) (env' := E11) (H' := (mkH [⟨[.int .i64 x3_0.1.f0, .str x3_0.1.f1, .int .i64 x3_0.1.f2], 3, false⟩])) (by kernel_rfl) ?_
       refine ok_split 64 (b := decide (x1_0.2 = 4)) (by kernel_rfl) (fun hb => ?_) (fun hb => ?_)
       ·let E12 : Env := ((68, .bool (decide (x2_0.2 = 2))) :: (67, .bool (decide (x2_0.2 = 2))) :: (66, .bool (decide (x2_0.2 = 2))) :: (65, .int .i64 x2_0.2) :: (64, .bool true) :: E11)
        refine ok_run 4 (p' := (atN 44 (ctl1 g10p5))) (env' := E12) (H' := (mkH [⟨[.int .i64 x3_0.1.f0, .str x3_0.1.f1, .int .i64 x3_0.1.f2], 3, false⟩])) (by kernel_rfl) ?_
        refine ok_split 68 (b := decide (x2_0.2 = 2)) (by kernel_rfl) (fun hb => ?_) (fun hb => ?_)
        ·let E13 : Env := ((72, .bool (decide (x3_0.2 = 4))) :: (71, .bool (decide (x3_0.2 = 4))) :: (70, .bool (decide (x3_0.2 = 4))) :: (69, .int .i64 x3_0.2) :: (68, .bool true) :: E12)
         refine ok_run 4 (p' := (atN 48 (ctl1 g10p5))) (env' := E13) (H' := (mkH [⟨[.int .i64 x3_0.1.f0, .str x3_0.1.f1, .int .i64 x3_0.1.f2], 3, false⟩])) (by kernel_rfl) ?_
         refine ok_split 72 (b := decide (x3_0.2 = 4)) (by kernel_rfl) (fun hb => ?_) (fun hb => ?_)
         ·let E14 : Env := ((77, .bool (decide (x3_0.1.f0 = 0))) :: (76, .bool (decide (x3_0.1.f0 = 0))) :: (75, .bool (decide (x3_0.1.f0 = 0))) :: (74, .int .i64 x3_0.1.f0) :: (73, .ptr 0 3 0) :: (72, .bool true) :: E13)
          refine ok_run 5 (p' := (atN 53 (ctl1 g10p5))) (env' := E14) (H' := (mkH [⟨[.int .i64 x3_0.1.f0, .str x3_0.1.f1, .int .i64 x3_0.1.f2], 3, false⟩])) (by kernel_rfl) ?_
          refine ok_split 77 (b := decide (x3_0.1.f0 = 0)) (by kernel_rfl) (fun hb => ?_) (fun hb => ?_)
          ·refine ok_call (fun (x4_53 : Int) => .int .i64 x4_53) (atN 54 (ctl1 g10p5)) (fun x4_53 => ((78, .int .i64 x4_53) :: (77, .bool true) :: E14)) (fi := 16) (args := [.str [32, 10, 32, 120], .int .i64 0]) (by kernel_rfl) (by kernel_rfl) (fun _ => by kernel_rfl) (fun r h => g16_ok k ([32, 10, 32, 120] : List Nat) (0 : Int) r h) (fun _ => by kernel_rfl) (fun x4_53 hx4_53 => ?_)
           let E15 : Env := ((0, .bool (decide (x4_53 = 3))) :: (80, .bool (decide (x4_53 = 3))) :: (79, .bool (decide (x4_53 = 3))) :: (78, .int .i64 x4_53) :: (77, .bool true) :: E14)
           refine ok_run 5 (p' := .fin) (env' := E15) (H' := (mkH [⟨[.int .i64 x3_0.1.f0, .str x3_0.1.f1, .int .i64 x3_0.1.f2], 3, false⟩])) (by kernel_rfl) ?_
           exact ok_ret (r := (decide (x4_53 = 3))) (xs := [.bool (decide (x4_53 = 3))]) (v := .bool (decide (x4_53 = 3))) (by kernel_rfl) (by kernel_rfl) (by kernel_rfl) (.pures (by kernel_rfl)) (by kernel_rfl)
          ·let E16 : Env := ((0, .bool false) :: (80, .bool false) :: (79, .tuple []) :: (78, .tuple []) :: (77, .bool false) :: E14)
           refine ok_run 6 (p' := .fin) (env' := E16) (H' := (mkH [⟨[.int .i64 x3_0.1.f0, .str x3_0.1.f1, .int .i64 x3_0.1.f2], 3, false⟩])) (by kernel_rfl) ?_
           exact ok_ret (r := false) (xs := [.bool false]) (v := .bool false) (by kernel_rfl) (by kernel_rfl) (by kernel_rfl) (.pures (by kernel_rfl)) (by kernel_rfl)
         ·let E17 : Env := ((0, .bool false) :: (80, .bool false) :: (79, .tuple []) :: (78, .tuple []) :: (77, .bool false) :: (76, .bool false) :: (75, .tuple []) :: (74, .tuple []) :: (73, .tuple []) :: (72, .bool false) :: E13)
          refine ok_run 11 (p' := .fin) (env' := E17) (H' := (mkH [⟨[.int .i64 x3_0.1.f0, .str x3_0.1.f1, .int .i64 x3_0.1.f2], 3, false⟩])) (by kernel_rfl) ?_
          exact ok_ret (r := false) (xs := [.bool false]) (v := .bool false) (by kernel_rfl) (by kernel_rfl) (by kernel_rfl) (.pures (by kernel_rfl)) (by kernel_rfl)
        ·let E18 : Env := ((0, .bool false) :: (80, .bool false) :: (79, .tuple []) :: (78, .tuple []) :: (77, .bool false) :: (76, .bool false) :: (75, .tuple []) :: (74, .tuple []) :: (73, .tuple []) :: (72, .bool false) :: (71, .bool false) :: (70, .tuple []) :: (69, .tuple []) :: (68, .bool false) :: E12)
         refine ok_run 15 (p' := .fin) (env' := E18) (H' := (mkH [⟨[.int .i64 x3_0.1.f0, .str x3_0.1.f1, .int .i64 x3_0.1.f2], 3, false⟩])) (by kernel_rfl) ?_
         exact ok_ret (r := false) (xs := [.bool false]) (v := .bool false) (by kernel_rfl) (by kernel_rfl) (by kernel_rfl) (.pures (by kernel_rfl)) (by kernel_rfl)
       ·let E19 : Env := ((0, .bool false) :: (80, .bool false) :: (79, .tuple []) :: (78, .tuple []) :: (77, .bool false) :: (76, .bool false) :: (75, .tuple []) :: (74, .tuple []) :: (73, .tuple []) :: (72, .bool false) :: (71, .bool false) :: (70, .tuple []) :: (69, .tuple []) :: (68, .bool false) :: (67, .bool false) :: (66, .tuple []) :: (65, .tuple []) :: (64, .bool false) :: E11)
        refine ok_run 19 (p' := .fin) (env' := E19) (H' := (mkH [⟨[.int .i64 x3_0.1.f0, .str x3_0.1.f1, .int .i64 x3_0.1.f2], 3, false⟩])) (by kernel_rfl) ?_
        exact ok_ret (r := false) (xs := [.bool false]) (v := .bool false) (by kernel_rfl) (by kernel_rfl) (by kernel_rfl) (.pures (by kernel_rfl)) (by kernel_rfl)
      ·let E20 : Env := ((0, .bool false) :: (80, .bool false) :: (79, .tuple []) :: (78, .tuple []) :: (77, .bool false) :: (76, .bool false) :: (75, .tuple []) :: (74, .tuple []) :: (73, .tuple []) :: (72, .bool false) :: (71, .bool false) :: (70, .tuple []) :: (69, .tuple []) :: (68, .bool false) :: (67, .bool false) :: (66, .tuple []) :: (65, .tuple []) :: (64, .bool false) :: (63, .bool false) :: (62, .tuple []) :: (61, .tuple []) :: (60, .bool false) :: E10)
       refine ok_run 23 (p' := .fin) (env' := E20) (H' := (mkH [⟨[.int .i64 x3_0.1.f0, .str x3_0.1.f1, .int .i64 x3_0.1.f2], 3, false⟩])) (by kernel_rfl) ?_
       exact ok_ret (r := false) (xs := [.bool false]) (v := .bool false) (by kernel_rfl) (by kernel_rfl) (by kernel_rfl) (.pures (by kernel_rfl)) (by kernel_rfl)
     ·let E21 : Env := ((0, .bool false) :: (80, .bool false) :: (79, .tuple []) :: (78, .tuple []) :: (77, .bool false) :: (76, .bool false) :: (75, .tuple []) :: (74, .tuple []) :: (73, .tuple []) :: (72, .bool false) :: (71, .bool false) :: (70, .tuple []) :: (69, .tuple []) :: (68, .bool false) :: (67, .bool false) :: (66, .tuple []) :: (65, .tuple []) :: (64, .bool false) :: (63, .bool false) :: (62, .tuple []) :: (61, .tuple []) :: (60, .bool false) :: (59, .bool false) :: (58, .tuple []) :: (57, .tuple []) :: (56, .tuple []) :: (55, .tuple []) :: (54, .tuple []) :: (53, .bool false) :: E9)
      refine ok_run 30 (p' := .fin) (env' := E21) (H' := (mkH [⟨[.int .i64 x3_0.1.f0, .str x3_0.1.f1, .int .i64 x3_0.1.f2], 3, false⟩])) (by kernel_rfl) ?_
      exact ok_ret (r := false) (xs := [.bool false]) (v := .bool false) (by kernel_rfl) (by kernel_rfl) (by kernel_rfl) (.pures (by kernel_rfl)) (by kernel_rfl)
    ·let E22 : Env := ((0, .bool false) :: (80, .bool false) :: (79, .tuple []) :: (78, .tuple []) :: (77, .bool false) :: (76, .bool false) :: (75, .tuple []) :: (74, .tuple []) :: (73, .tuple []) :: (72, .bool false) :: (71, .bool false) :: (70, .tuple []) :: (69, .tuple []) :: (68, .bool false) :: (67, .bool false) :: (66, .tuple []) :: (65, .tuple []) :: (64, .bool false) :: (63, .bool false) :: (62, .tuple []) :: (61, .tuple []) :: (60, .bool false) :: (59, .bool false) :: (58, .tuple []) :: (57, .tuple []) :: (56, .tuple []) :: (55, .tuple []) :: (54, .tuple []) :: (53, .bool false) :: (52, .bool false) :: (51, .tuple []) :: (50, .tuple []) :: (49, .tuple []) :: (48, .tuple []) :: (47, .tuple []) :: (46, .bool false) :: E8)
     refine ok_run 37 (p' := .fin) (env' := E22) (H' := (mkH [⟨[.int .i64 x3_0.1.f0, .str x3_0.1.f1, .int .i64 x3_0.1.f2], 3, false⟩])) (by kernel_rfl) ?_
     exact ok_ret (r := false) (xs := [.bool false]) (v := .bool false) (by kernel_rfl) (by kernel_rfl) (by kernel_rfl) (.pures (by kernel_rfl)) (by kernel_rfl)
   ·let E23 : Env := ((0, .bool false) :: (80, .bool false) :: (79, .tuple []) :: (78, .tuple []) :: (77, .bool false) :: (76, .bool false) :: (75, .tuple []) :: (74, .tuple []) :: (73, .tuple []) :: (72, .bool false) :: (71, .bool false) :: (70, .tuple []) :: (69, .tuple []) :: (68, .bool false) :: (67, .bool false) :: (66, .tuple []) :: (65, .tuple []) :: (64, .bool false) :: (63, .bool false) :: (62, .tuple []) :: (61, .tuple []) :: (60, .bool false) :: (59, .bool false) :: (58, .tuple []) :: (57, .tuple []) :: (56, .tuple []) :: (55, .tuple []) :: (54, .tuple []) :: (53, .bool false) :: (52, .bool false) :: (51, .tuple []) :: (50, .tuple []) :: (49, .tuple []) :: (48, .tuple []) :: (47, .tuple []) :: (46, .bool false) :: (45, .bool false) :: (44, .tuple []) :: (43, .tuple []) :: (42, .tuple []) :: (41, .tuple []) :: (40, .tuple []) :: (39, .bool false) :: E7)
    refine ok_run 44 (p' := .fin) (env' := E23) (H' := (mkH [⟨[.int .i64 x3_0.1.f0, .str x3_0.1.f1, .int .i64 x3_0.1.f2], 3, false⟩])) (by kernel_rfl) ?_
    exact ok_ret (r := false) (xs := [.bool false]) (v := .bool false) (by kernel_rfl) (by kernel_rfl) (by kernel_rfl) (.pures (by kernel_rfl)) (by kernel_rfl)
  ·let E24 : Env := ((0, .bool false) :: (80, .bool false) :: (79, .tuple []) :: (78, .tuple []) :: (77, .bool false) :: (76, .bool false) :: (75, .tuple []) :: (74, .tuple []) :: (73, .tuple []) :: (72, .bool false) :: (71, .bool false) :: (70, .tuple []) :: (69, .tuple []) :: (68, .bool false) :: (67, .bool false) :: (66, .tuple []) :: (65, .tuple []) :: (64, .bool false) :: (63, .bool false) :: (62, .tuple []) :: (61, .tuple []) :: (60, .bool false) :: (59, .bool false) :: (58, .tuple []) :: (57, .tuple []) :: (56, .tuple []) :: (55, .tuple []) :: (54, .tuple []) :: (53, .bool false) :: (52, .bool false) :: (51, .tuple []) :: (50, .tuple []) :: (49, .tuple []) :: (48, .tuple []) :: (47, .tuple []) :: (46, .bool false) :: (45, .bool false) :: (44, .tuple []) :: (43, .tuple []) :: (42, .tuple []) :: (41, .tuple []) :: (40, .tuple []) :: (39, .bool false) :: (38, .bool false) :: (37, .tuple []) :: (36, .tuple []) :: (35, .tuple []) :: (34, .tuple []) :: (33, .tuple []) :: (32, .bool false) :: E6)
   refine ok_run 51 (p' := .fin) (env' := E24) (H' := (mkH [⟨[.int .i64 x3_0.1.f0, .str x3_0.1.f1, .int .i64 x3_0.1.f2], 3, false⟩])) (by kernel_rfl) ?_
   exact ok_ret (r := false) (xs := [.bool false]) (v := .bool false) (by kernel_rfl) (by kernel_rfl) (by kernel_rfl) (.pures (by kernel_rfl)) (by kernel_rfl)
 ·let E25 : Env := ((0, .bool false) :: (80, .bool false) :: (79, .tuple []) :: (78, .tuple []) :: (77, .bool false) :: (76, .bool false) :: (75, .tuple []) :: (74, .tuple []) :: (73, .tuple []) :: (72, .bool false) :: (71, .bool false) :: (70, .tuple []) :: (69, .tuple []) :: (68, .bool false) :: (67, .bool false) :: (66, .tuple []) :: (65, .tuple []) :: (64, .bool false) :: (63, .bool false) :: (62, .tuple []) :: (61, .tuple []) :: (60, .bool false) :: (59, .bool false) :: (58, .tuple []) :: (57, .tuple []) :: (56, .tuple []) :: (55, .tuple []) :: (54, .tuple []) :: (53, .bool false) :: (52, .bool false) :: (51, .tuple []) :: (50, .tuple []) :: (49, .tuple []) :: (48, .tuple []) :: (47, .tuple []) :: (46, .bool false) :: (45, .bool false) :: (44, .tuple []) :: (43, .tuple []) :: (42, .tuple []) :: (41, .tuple []) :: (40, .tuple []) :: (39, .bool false) :: (38, .bool false) :: (37, .tuple []) :: (36, .tuple []) :: (35, .tuple []) :: (34, .tuple []) :: (33, .tuple []) :: (32, .bool false) :: (31, .bool false) :: (30, .tuple []) :: (29, .tuple []) :: (28, .tuple []) :: (27, .bool false) :: E5)
  refine ok_run 56 (p' := .fin) (env' := E25) (H' := (mkH [⟨[.int .i64 x3_0.1.f0, .str x3_0.1.f1, .int .i64 x3_0.1.f2], 3, false⟩])) (by kernel_rfl) ?_
  exact ok_ret (r := false) (xs := [.bool false]) (v := .bool false) (by kernel_rfl) (by kernel_rfl) (by kernel_rfl) (.pures (by kernel_rfl)) (by kernel_rfl)
end
end Go.Proofs.Ytokcjgjgojlhbaa.Am
set_option maxRecDepth 100000
set_option linter.unusedVariables false
set_option linter.unusedSimpArgs false
namespace Go.Proofs.Ytokcjgjgojlhbaa.Am
open Go
theorem eqL_same (l : List Nat) : eqL l l = true := (eqL_iff l l).2 rfl
theorem told6 (k : Nat) : g10 (k + 60) = some true := by kernel_rfl
theorem toks_count {s : List Nat} {l : List (Nat × Nat × Nat)} {a : Nat} (h : Toks s a l) (ha : a ≤ s.length) : l.length + a ≤ s.length :=
 toks_len s (s.length + 1) a l ((toks_iff s (s.length + 1) a l (by omega)).2 h) ha
theorem nthL_map {α β : Type} {f : α → β} {l : List α} {i : Nat} {x : α} {r : List α} (h : l.drop i = x :: r) : nthL (l.map f) (i : Int) = some (f x) := by
 refine nthL_at (r := r.map f) ?_
 rw [← List.map_drop, h]; rfl
end Go.Proofs.Ytokcjgjgojlhbaa.Am
set_option maxRecDepth 100000
set_option linter.unusedVariables false
namespace Go.Proofs.Ytokcjgjgojlhbaa.Am
noncomputable section
open Go
def X4 : Fx Bool := ⟨Try.prog, cx, Try.f4, fun r => .bool r, 0, fun _ => H0, cxTi, cxOrd⟩
def g4p0 : Pt := nav [0] (bodyAt Try.f4)
def g4p1 : Pt := nav [0, 0, 0, 0] g4p0
def g4p2 : Pt := nav [0, 0] g4p1
def g4p3 : Pt := nav [1, 0] g4p2
def g4p4 : Pt := nav [2, 0, 0] g4p2
def g4p6 : Pt := nav [0, 0, 0, 0] g4p4
def g4p7 : Pt := nav [0, 0] g4p6
def g4p8 : Pt := nav [1, 0] g4p7
def g4p9 : Pt := nav [2, 0, 0] g4p7
def g4p10 : Pt := nav [0, 0, 0, 0] g4p9
def g4p11 : Pt := nav [0, 0, 0, 0] g4p10
def g4p12 : Pt := nav [0, 0, 0] g4p11
def g4p13 : Pt := nav [0, 0] g4p12
def g4p14 : Pt := nav [1, 0, 0, 0, 0] g4p13
def g4p15 : Pt := nav [2, 0, 0] g4p13
def g4p16 : Pt := nav [0, 0, 0, 0] g4p14
def g4p17 : Pt := nav [0, 0] g4p16
def g4p18 : Pt := nav [1] g4p17
def g4p19 : Pt := nav [2, 0, 0, 0] g4p17
def g4p20 : Pt := nav [0, 0] g4p19
def g4p22 : Pt := nav [2, 0, 0, 0] g4p20
def g4p23 : Pt := nav [0, 0, 0, 0] g4p22
def g4p24 : Pt := nav [0, 0, 0] g4p23
def g4p25 : Pt := nav [0, 0] g4p24
def g4p26 : Pt := nav [1, 0, 0, 0, 0] g4p25
def g4p27 : Pt := nav [2, 0, 0, 0] g4p25
def g4p28 : Pt := nav [0, 0] g4p26
def g4p29 : Pt := nav [0, 0] g4p27
def g4p32 : Pt := nav [2, 0, 0] g4p29
def g4p33 : Pt := nav [0, 0, 0, 0] g4p32
def g4p34 : Pt := nav [0] g4p33
def g4p36 : Pt := nav [2, 0, 0] g4p34
def g4p37 : Pt := nav [0, 0, 0, 0] g4p36
def g4p38 : Pt := nav [0] g4p37
def g4p40 : Pt := nav [2, 0] g4p38
def g4p41 : Pt := nav [0, 0] g4p40
def g4_l13 (k : Nat) (c10 : Int → Int → Option Bool) (c18 : Unit → Option Bool) (a0 : (List Nat)) (x1_1 : ((List S28) × Int)) (y10_0 : Int) (y10_1 : Int) (z11 : Int × Int × Int) (n : Nat) : Int → Int → Option Bool :=
 Nat.rec (motive := fun _ => Int → Int → Option Bool) (fun _ _ => none) (fun _ ih => fun (y13_0 : Int) (y13_1 : Int) => jn (fun (z15 : Int) => if (decide (z15 = (x1_1.1.length : Int))) then (c18 ()) else ((nthL x1_1.1 z15).bind fun x6_2 => jn (fun (z16 : Bool × Int) => if z16.1 then (some false) else ((catS x6_2.f1 ([10] : List Nat)).bind fun x8_2 => (g11 k x8_2).bind fun x8_3 => jn (fun (z17 : Bool × Int) => if z17.1 then (some false) else (c10 (fwrap .i64 (z11.1 + (x6_2.f1.length : Int))) (fwrap .i64 (z17.2 + 1)))) (fun j17 => if (!decide (x8_3.2 = 0)) then (j17 (true, z16.2)) else (if (!decide ((x8_3.1.length : Int) = 1)) then (j17 (true, z16.2)) else ((nthL x8_3.1 0).bind fun x9_9 => if (!(eqL x9_9.f1 x6_2.f1)) then (j17 (true, z16.2)) else ((nthL x8_3.1 0).bind fun x9_18 => if (!decide (x9_18.f0 = x6_2.f0)) then (j17 (!(eqL x6_2.f1 [46]), z16.2)) else (j17 (false, z16.2)))))))) (fun j16 => if (eqL x6_2.f1 []) then (j16 (true, z15)) else (if (decide (fwrap .i64 ((a0.length : Int) - z11.1) < (x6_2.f1.length : Int))) then (j16 (true, z15)) else ((subL a0 (some z11.1) (some (fwrap .i64 (z11.1 + (x6_2.f1.length : Int))))).bind fun x7_21 => j16 (!(eqL x7_21 x6_2.f1), z15)))))) (fun j15 => if (decide (y13_0 < z11.1)) then ((nthS a0 y13_0).bind fun x5_2 => jn (fun (z14 : Bool × Int × Int) => if z14.1 then (some false) else (ih (fwrap .i64 (z14.2.1 + 1)) z14.2.2)) (fun j14 => if (!decide (x5_2 = 32)) then ((nthS a0 y13_0).bind fun x5_7 => if (!decide (x5_7 = 9)) then ((nthS a0 y13_0).bind fun x5_13 => if (!decide (x5_13 = 10)) then ((nthS a0 y13_0).bind fun x5_19 => j14 (!decide (x5_19 = 13), y13_0, y13_1)) else (j14 (false, y13_0, y13_1))) else (j14 (false, y13_0, y13_1))) else (j14 (false, y13_0, y13_1)))) else (j15 y13_1))) n
theorem g4_l13_s (k : Nat) (c10 : Int → Int → Option Bool) (c18 : Unit → Option Bool) (a0 : (List Nat)) (x1_1 : ((List S28) × Int)) (y10_0 : Int) (y10_1 : Int) (z11 : Int × Int × Int) (n : Nat) (y13_0 : Int) (y13_1 : Int) : g4_l13 k c10 c18 a0 x1_1 y10_0 y10_1 z11 (n + 1) y13_0 y13_1 = (jn (fun (z15 : Int) => if (decide (z15 = (x1_1.1.length : Int))) then (c18 ()) else ((nthL x1_1.1 z15).bind fun x6_2 => jn (fun (z16 : Bool × Int) => if z16.1 then (some false) else ((catS x6_2.f1 ([10] : List Nat)).bind fun x8_2 => (g11 k x8_2).bind fun x8_3 => jn (fun (z17 : Bool × Int) => if z17.1 then (some false) else (c10 (fwrap .i64 (z11.1 + (x6_2.f1.length : Int))) (fwrap .i64 (z17.2 + 1)))) (fun j17 => if (!decide (x8_3.2 = 0)) then (j17 (true, z16.2)) else (if (!decide ((x8_3.1.length : Int) = 1)) then (j17 (true, z16.2)) else ((nthL x8_3.1 0).bind fun x9_9 => if (!(eqL x9_9.f1 x6_2.f1)) then (j17 (true, z16.2)) else ((nthL x8_3.1 0).bind fun x9_18 => if (!decide (x9_18.f0 = x6_2.f0)) then (j17 (!(eqL x6_2.f1 [46]), z16.2)) else (j17 (false, z16.2)))))))) (fun j16 => if (eqL x6_2.f1 []) then (j16 (true, z15)) else (if (decide (fwrap .i64 ((a0.length : Int) - z11.1) < (x6_2.f1.length : Int))) then (j16 (true, z15)) else ((subL a0 (some z11.1) (some (fwrap .i64 (z11.1 + (x6_2.f1.length : Int))))).bind fun x7_21 => j16 (!(eqL x7_21 x6_2.f1), z15)))))) (fun j15 => if (decide (y13_0 < z11.1)) then ((nthS a0 y13_0).bind fun x5_2 => jn (fun (z14 : Bool × Int × Int) => if z14.1 then (some false) else ((g4_l13 k c10 c18 a0 x1_1 y10_0 y10_1 z11 n) (fwrap .i64 (z14.2.1 + 1)) z14.2.2)) (fun j14 => if (!decide (x5_2 = 32)) then ((nthS a0 y13_0).bind fun x5_7 => if (!decide (x5_7 = 9)) then ((nthS a0 y13_0).bind fun x5_13 => if (!decide (x5_13 = 10)) then ((nthS a0 y13_0).bind fun x5_19 => j14 (!decide (x5_19 = 13), y13_0, y13_1)) else (j14 (false, y13_0, y13_1))) else (j14 (false, y13_0, y13_1))) else (j14 (false, y13_0, y13_1)))) else (j15 y13_1))) := rfl
theorem g4_l13_ok (k : Nat) (c10 : Int → Int → Option Bool) (c18 : Unit → Option Bool) (a0 : (List Nat)) (x1_1 : ((List S28) × Int)) (y10_0 : Int) (y10_1 : Int) (z11 : Int × Int × Int) (hc10 : ∀ (y10_0 : Int) (y10_1 : Int), Ok X4 g4p11 [(0, .str a0), (3, .vec (x1_1.1).length 3 ((x1_1.1).flatMap e29)), (5, .int .i64 y10_0), (6, .int .i64 y10_1)] (mkH []) (c10 y10_0 y10_1)) (hc18 : ∀ z18 : Unit, Ok X4 g4p15 ((fun (z18 : Unit) => []) z18) ((fun (z18 : Unit) => (mkH [])) z18) (c18 z18)) : ∀ (n : Nat) (y13_0 : Int) (y13_1 : Int), Ok X4 g4p23 [(0, .str a0), (3, .vec (x1_1.1).length 3 ((x1_1.1).flatMap e29)), (6, .int .i64 y13_1), (7, .int .i64 z11.1), (8, .int .i64 y13_0)] (mkH []) (g4_l13 k c10 c18 a0 x1_1 y10_0 y10_1 z11 n y13_0 y13_1)
 | 0, _, _ => ok_none
 | n + 1, y13_0, y13_1 => by
  have ih := g4_l13_ok k c10 c18 a0 x1_1 y10_0 y10_1 z11 hc10 hc18 n
  rw [g4_l13_s]
  refine ok_ent (p' := nav [0] g4p23) (by kernel_rfl) ?_
  let E11 : Env := [(58, .bool (decide (y13_0 < z11.1))), (57, .int .i64 z11.1), (56, .int .i64 y13_0), (0, .str a0), (3, .vec (x1_1.1).length 3 ((x1_1.1).flatMap e29)), (6, .int .i64 y13_1), (7, .int .i64 z11.1), (8, .int .i64 y13_0)]
  refine ok_run 7 (p' := g4p25) (env' := E11) (H' := (mkH [])) (by kernel_rfl) ?_
  refine ok_jn (f := fun (z15 : Int) => if (decide (z15 = (x1_1.1.length : Int))) then (c18 ()) else ((nthL x1_1.1 z15).bind fun x6_2 => jn (fun (z16 : Bool × Int) => if z16.1 then (some false) else ((catS x6_2.f1 ([10] : List Nat)).bind fun x8_2 => (g11 k x8_2).bind fun x8_3 => jn (fun (z17 : Bool × Int) => if z17.1 then (some false) else (c10 (fwrap .i64 (z11.1 + (x6_2.f1.length : Int))) (fwrap .i64 (z17.2 + 1)))) (fun j17 => if (!decide (x8_3.2 = 0)) then (j17 (true, z16.2)) else (if (!decide ((x8_3.1.length : Int) = 1)) then (j17 (true, z16.2)) else ((nthL x8_3.1 0).bind fun x9_9 => if (!(eqL x9_9.f1 x6_2.f1)) then (j17 (true, z16.2)) else ((nthL x8_3.1 0).bind fun x9_18 => if (!decide (x9_18.f0 = x6_2.f0)) then (j17 (!(eqL x6_2.f1 [46]), z16.2)) else (j17 (false, z16.2)))))))) (fun j16 => if (eqL x6_2.f1 []) then (j16 (true, z15)) else (if (decide (fwrap .i64 ((a0.length : Int) - z11.1) < (x6_2.f1.length : Int))) then (j16 (true, z15)) else ((subL a0 (some z11.1) (some (fwrap .i64 (z11.1 + (x6_2.f1.length : Int))))).bind fun x7_21 => j16 (!(eqL x7_21 x6_2.f1), z15)))))) g4p27 (fun (z15 : Int) => [(0, .str a0), (3, .vec (x1_1.1).length 3 ((x1_1.1).flatMap e29)), (6, .int .i64 z15), (7, .int .i64 z11.1)]) (fun (z15 : Int) => (mkH [])) (fun z15 => ?_) (fun j15 hj15 => ?_)
  ·let E12 : Env := [(86, .bool (decide (z15 = (x1_1.1.length : Int)))), (85, .int .i64 (x1_1.1.length : Int)), (84, .vec (x1_1.1).length 3 ((x1_1.1).flatMap e29)), (83, .int .i64 z15), (0, .str a0), (3, .vec (x1_1.1).length 3 ((x1_1.1).flatMap e29)), (6, .int .i64 z15), (7, .int .i64 z11.1)]
   refine ok_run 6 (p' := g4p29) (env' := E12) (H' := (mkH [])) (by kernel_rfl) ?_
   refine ok_split 86 (b := decide (z15 = (x1_1.1.length : Int))) (by kernel_rfl) (fun hb => ?_) (fun hb => ?_)
   ·refine ok_run 3 (p' := g4p15) (env' := ((86, .bool true) :: E12)) (H' := (mkH [])) (by kernel_rfl) ?_
    refine ok_keep [] (env' := []) (by kernel_rfl) ?_
    exact hc18 ()
   ·refine ok_run 6 (p' := (atN 2 (ctl1 g4p32))) (env' := ((88, .int .i64 z15) :: (87, .vec (x1_1.1).length 3 ((x1_1.1).flatMap e29)) :: (86, .bool false) :: E12)) (H' := (mkH [])) (by kernel_rfl) ?_
    refine ok_chk (fun (x6_2 : S28) => (.vptr [.int .i64 x6_2.f0, .str x6_2.f1, .int .i64 x6_2.f2], (mkH []))) (atN 3 (ctl1 g4p32)) (fun x6_2 => ((89, .vptr [.int .i64 x6_2.f0, .str x6_2.f1, .int .i64 x6_2.f2]) :: (88, .int .i64 z15) :: (87, .vec (x1_1.1).length 3 ((x1_1.1).flatMap e29)) :: (86, .bool false) :: E12)) (vidxH (sz := 3) e29_len (by kernel_rfl)) (fun _ => by kernel_rfl) (fun x6_2 hx6_2 => ?_)
    let E13 : Env := ((9, .ptr 0 3 0) :: (90, .agg [.int .i64 x6_2.f0, .str x6_2.f1, .int .i64 x6_2.f2]) :: (89, .vptr [.int .i64 x6_2.f0, .str x6_2.f1, .int .i64 x6_2.f2]) :: (88, .int .i64 z15) :: (87, .vec (x1_1.1).length 3 ((x1_1.1).flatMap e29)) :: (86, .bool false) :: E12)
    refine ok_run 6 (p' := g4p33) (env' := E13) (H' := (mkH [⟨[.int .i64 x6_2.f0, .str x6_2.f1, .int .i64 x6_2.f2], 3, false⟩])) (by kernel_rfl) ?_
    refine ok_keep [0, 3, 6, 7, 9] (env' := [(0, .str a0), (3, .vec (x1_1.1).length 3 ((x1_1.1).flatMap e29)), (6, .int .i64 z15), (7, .int .i64 z11.1), (9, .ptr 0 3 0)]) (by kernel_rfl) ?_
    refine ok_jn (f := fun (z16 : Bool × Int) => if z16.1 then (some false) else ((catS x6_2.f1 ([10] : List Nat)).bind fun x8_2 => (g11 k x8_2).bind fun x8_3 => jn (fun (z17 : Bool × Int) => if z17.1 then (some false) else (c10 (fwrap .i64 (z11.1 + (x6_2.f1.length : Int))) (fwrap .i64 (z17.2 + 1)))) (fun j17 => if (!decide (x8_3.2 = 0)) then (j17 (true, z16.2)) else (if (!decide ((x8_3.1.length : Int) = 1)) then (j17 (true, z16.2)) else ((nthL x8_3.1 0).bind fun x9_9 => if (!(eqL x9_9.f1 x6_2.f1)) then (j17 (true, z16.2)) else ((nthL x8_3.1 0).bind fun x9_18 => if (!decide (x9_18.f0 = x6_2.f0)) then (j17 (!(eqL x6_2.f1 [46]), z16.2)) else (j17 (false, z16.2)))))))) g4p34 (fun (z16 : Bool × Int) => [(0, .str a0), (3, .vec (x1_1.1).length 3 ((x1_1.1).flatMap e29)), (6, .int .i64 z16.2), (7, .int .i64 z11.1), (9, .ptr 0 3 0), (116, .bool z16.1)]) (fun (z16 : Bool × Int) => (mkH [⟨[.int .i64 x6_2.f0, .str x6_2.f1, .int .i64 x6_2.f2], 3, false⟩])) (fun z16 => ?_) (fun j16 hj16 => ?_)
    ·refine ok_split 116 (b := z16.1) (by kernel_rfl) (fun hb => ?_) (fun hb => ?_)
     ·let E14 : Env := [(2, .bool false), (116, .bool true), (0, .str a0), (3, .vec (x1_1.1).length 3 ((x1_1.1).flatMap e29)), (6, .int .i64 z16.2), (7, .int .i64 z11.1), (9, .ptr 0 3 0), (116, .bool z16.1)]
      refine ok_run 6 (p' := .fin) (env' := E14) (H' := (mkH [⟨[.int .i64 x6_2.f0, .str x6_2.f1, .int .i64 x6_2.f2], 3, false⟩])) (by kernel_rfl) ?_
      exact ok_ret (r := false) (xs := [.bool false]) (v := .bool false) (by kernel_rfl) (by kernel_rfl) (by kernel_rfl) (.pures (by kernel_rfl)) (by kernel_rfl)
     ·let E15 : Env := [(119, .str x6_2.f1), (118, .ptr 0 3 1), (116, .bool false), (0, .str a0), (3, .vec (x1_1.1).length 3 ((x1_1.1).flatMap e29)), (6, .int .i64 z16.2), (7, .int .i64 z11.1), (9, .ptr 0 3 0), (116, .bool z16.1)]
      refine ok_run 6 (p' := (atN 2 (ctl1 g4p36))) (env' := E15) (H' := (mkH [⟨[.int .i64 x6_2.f0, .str x6_2.f1, .int .i64 x6_2.f2], 3, false⟩])) (by kernel_rfl) ?_
      refine ok_chk (fun (x8_2 : (List Nat)) => (.str x8_2, (mkH [⟨[.int .i64 x6_2.f0, .str x6_2.f1, .int .i64 x6_2.f2], 3, false⟩]))) (atN 3 (ctl1 g4p36)) (fun x8_2 => ((120, .str x8_2) :: E15)) (catH (by kernel_rfl)) (fun _ => by kernel_rfl) (fun x8_2 hx8_2 => ?_)
      refine ok_call (fun (x8_3 : ((List S28) × Int)) => .tuple [.vec (x8_3.1).length 3 ((x8_3.1).flatMap e29), .int .i64 x8_3.2]) (atN 4 (ctl1 g4p36)) (fun x8_3 => ((121, .tuple [.vec (x8_3.1).length 3 ((x8_3.1).flatMap e29), .int .i64 x8_3.2]) :: (120, .str x8_2) :: E15)) (fi := 11) (args := [.str x8_2]) (by kernel_rfl) (by kernel_rfl) (fun _ => by kernel_rfl) (fun r h => g11_ok k x8_2 r h) (fun _ => by kernel_rfl) (fun x8_3 hx8_3 => ?_)
      let E16 : Env := ((11, .int .i64 x8_3.2) :: (10, .vec (x8_3.1).length 3 ((x8_3.1).flatMap e29)) :: (123, .int .i64 x8_3.2) :: (122, .vec (x8_3.1).length 3 ((x8_3.1).flatMap e29)) :: (117, .tuple [.vec (x8_3.1).length 3 ((x8_3.1).flatMap e29), .int .i64 x8_3.2]) :: (121, .tuple [.vec (x8_3.1).length 3 ((x8_3.1).flatMap e29), .int .i64 x8_3.2]) :: (120, .str x8_2) :: E15)
      refine ok_run 8 (p' := g4p37) (env' := E16) (H' := (mkH [⟨[.int .i64 x6_2.f0, .str x6_2.f1, .int .i64 x6_2.f2], 3, false⟩])) (by kernel_rfl) ?_
      refine ok_keep [0, 3, 6, 7, 9, 10, 11] (env' := [(0, .str a0), (3, .vec (x1_1.1).length 3 ((x1_1.1).flatMap e29)), (6, .int .i64 z16.2), (7, .int .i64 z11.1), (9, .ptr 0 3 0), (10, .vec (x8_3.1).length 3 ((x8_3.1).flatMap e29)), (11, .int .i64 x8_3.2)]) (by kernel_rfl) ?_
      refine ok_jn (f := fun (z17 : Bool × Int) => if z17.1 then (some false) else (c10 (fwrap .i64 (z11.1 + (x6_2.f1.length : Int))) (fwrap .i64 (z17.2 + 1)))) g4p38 (fun (z17 : Bool × Int) => [(0, .str a0), (3, .vec (x1_1.1).length 3 ((x1_1.1).flatMap e29)), (6, .int .i64 z17.2), (7, .int .i64 z11.1), (9, .ptr 0 3 0), (154, .bool z17.1)]) (fun (z17 : Bool × Int) => (mkH [⟨[.int .i64 x6_2.f0, .str x6_2.f1, .int .i64 x6_2.f2], 3, false⟩])) (fun z17 => ?_) (fun j17 hj17 => ?_)
      ·refine ok_split 154 (b := z17.1) (by kernel_rfl) (fun hb => ?_) (fun hb => ?_)
       ·let E17 : Env := [(2, .bool false), (154, .bool true), (0, .str a0), (3, .vec (x1_1.1).length 3 ((x1_1.1).flatMap e29)), (6, .int .i64 z17.2), (7, .int .i64 z11.1), (9, .ptr 0 3 0), (154, .bool z17.1)]
        refine ok_run 6 (p' := .fin) (env' := E17) (H' := (mkH [⟨[.int .i64 x6_2.f0, .str x6_2.f1, .int .i64 x6_2.f2], 3, false⟩])) (by kernel_rfl) ?_
        exact ok_ret (r := false) (xs := [.bool false]) (v := .bool false) (by kernel_rfl) (by kernel_rfl) (by kernel_rfl) (.pures (by kernel_rfl)) (by kernel_rfl)
       ·let E18 : Env := [(5, .int .i64 (fwrap .i64 (z11.1 + (x6_2.f1.length : Int)))), (159, .int .i64 (fwrap .i64 (z11.1 + (x6_2.f1.length : Int)))), (158, .int .i64 (x6_2.f1.length : Int)), (157, .str x6_2.f1), (156, .ptr 0 3 1), (155, .int .i64 z11.1), (154, .bool false), (0, .str a0), (3, .vec (x1_1.1).length 3 ((x1_1.1).flatMap e29)), (6, .int .i64 z17.2), (7, .int .i64 z11.1), (9, .ptr 0 3 0), (154, .bool z17.1)]
        refine ok_run 10 (p' := g4p41) (env' := E18) (H' := (mkH [⟨[.int .i64 x6_2.f0, .str x6_2.f1, .int .i64 x6_2.f2], 3, false⟩])) (by kernel_rfl) ?_
        refine ok_keep [0, 3, 5, 6] (env' := [(0, .str a0), (3, .vec (x1_1.1).length 3 ((x1_1.1).flatMap e29)), (5, .int .i64 (fwrap .i64 (z11.1 + (x6_2.f1.length : Int)))), (6, .int .i64 z17.2)]) (by kernel_rfl) ?_
        let E19 : Env := [(6, .int .i64 (fwrap .i64 (z17.2 + 1))), (34, .int .i64 (fwrap .i64 (z17.2 + 1))), (33, .int .i64 z17.2), (0, .str a0), (3, .vec (x1_1.1).length 3 ((x1_1.1).flatMap e29)), (5, .int .i64 (fwrap .i64 (z11.1 + (x6_2.f1.length : Int)))), (6, .int .i64 z17.2)]
        refine ok_run 5 (p' := g4p11) (env' := E19) (H' := (mkH [⟨[.int .i64 x6_2.f0, .str x6_2.f1, .int .i64 x6_2.f2], 3, false⟩])) (by kernel_rfl) ?_
        refine ok_keep [0, 3, 5, 6] (env' := [(0, .str a0), (3, .vec (x1_1.1).length 3 ((x1_1.1).flatMap e29)), (5, .int .i64 (fwrap .i64 (z11.1 + (x6_2.f1.length : Int)))), (6, .int .i64 (fwrap .i64 (z17.2 + 1)))]) (by kernel_rfl) ?_
        refine ok_cut [] [⟨[.int .i64 x6_2.f0, .str x6_2.f1, .int .i64 x6_2.f2], 3, false⟩] (by kernel_rfl) rfl (by kernel_rfl) trivial ?_
        exact hc10 (fwrap .i64 (z11.1 + (x6_2.f1.length : Int))) (fwrap .i64 (z17.2 + 1))
      ·refine ok_if (fun hb14 => ?_) (fun hb14 => ?_)
       ·let E20 : Env := [(126, .bool (!decide (x8_3.2 = 0))), (125, .bool (!decide (x8_3.2 = 0))), (124, .int .i64 x8_3.2), (0, .str a0), (3, .vec (x1_1.1).length 3 ((x1_1.1).flatMap e29)), (6, .int .i64 z16.2), (7, .int .i64 z11.1), (9, .ptr 0 3 0), (10, .vec (x8_3.1).length 3 ((x8_3.1).flatMap e29)), (11, .int .i64 x8_3.2)]
        let E21 : Env := [(154, .bool true), (153, .tuple []), (152, .tuple []), (151, .tuple []), (150, .tuple []), (149, .tuple []), (148, .tuple []), (147, .tuple []), (146, .tuple []), (145, .tuple []), (144, .tuple []), (143, .tuple []), (142, .tuple []), (141, .tuple []), (140, .bool true), (139, .bool true), (138, .tuple []), (137, .tuple []), (136, .tuple []), (135, .tuple []), (134, .tuple []), (133, .tuple []), (132, .tuple []), (131, .bool true), (130, .bool true), (129, .tuple []), (128, .tuple []), (127, .tuple []), (126, .bool true), (125, .bool true), (124, .int .i64 x8_3.2), (0, .str a0), (3, .vec (x1_1.1).length 3 ((x1_1.1).flatMap e29)), (6, .int .i64 z16.2), (7, .int .i64 z11.1), (9, .ptr 0 3 0), (10, .vec (x8_3.1).length 3 ((x8_3.1).flatMap e29)), (11, .int .i64 x8_3.2)]
        refine ok_draw (p' := nav [0] g4p37) (env' := E21) (H' := (mkH [⟨[.int .i64 x6_2.f0, .str x6_2.f1, .int .i64 x6_2.f2], 3, false⟩])) (hs := []) [(0, 0, 0), (1, 0, 0), (3, 0, 0), (7, 0, 0), (15, 0, 0), (31, 0, 0), (63, 0, 0), (127, 0, 0), (255, 0, 0), (511, 0, 0), (1023, 0, 0), (2047, 0, 0), (255, 0, 0), (4351, 0, 0), (16383, 0, 0), (32767, 0, 0), (65535, 0, 0), (131071, 0, 0), (262143, 0, 0), (524287, 0, 0), (1048575, 0, 0), (131071, 0, 0), (2228223, 0, 0), (8388607, 0, 0), (16777215, 0, 0), (33554431, 0, 0), (67108863, 0, 0), (134217727, 0, 0), (268435455, 0, 0), (536870911, 0, 0), (1073741823, 0, 0)] (by kernel_rfl) (by kernel_rfl) (by kernel_rfl) (opsD_run 3 (l' := (opsAt g4p37).toList.drop 3) (env' := E20) (H' := (mkH [⟨[.int .i64 x6_2.f0, .str x6_2.f1, .int .i64 x6_2.f2], 3, false⟩])) (hs := []) (by kernel_rfl) (opsD_env (env' := [(126, .bool true), (125, .bool true), (124, .int .i64 x8_3.2), (0, .str a0), (3, .vec (x1_1.1).length 3 ((x1_1.1).flatMap e29)), (6, .int .i64 z16.2), (7, .int .i64 z11.1), (9, .ptr 0 3 0), (10, .vec (x8_3.1).length 3 ((x8_3.1).flatMap e29)), (11, .int .i64 x8_3.2)]) (congrArg (fun z : Bool => ([(126, .bool z), (125, .bool z), (124, .int .i64 x8_3.2), (0, .str a0), (3, .vec (x1_1.1).length 3 ((x1_1.1).flatMap e29)), (6, .int .i64 z16.2), (7, .int .i64 z11.1), (9, .ptr 0 3 0), (10, .vec (x8_3.1).length 3 ((x8_3.1).flatMap e29)), (11, .int .i64 x8_3.2)] : Env)) hb14) (opsD_run 28 (l' := (opsAt g4p37).toList.drop 31) (env' := E21) (H' := (mkH [⟨[.int .i64 x6_2.f0, .str x6_2.f1, .int .i64 x6_2.f2], 3, false⟩])) (hs := []) (by kernel_rfl) (.nil)))) (by kernel_rfl) (by kernel_rfl) (by kernel_rfl) ?_
        refine ok_keep [0, 3, 6, 7, 9, 154] (env' := [(0, .str a0), (3, .vec (x1_1.1).length 3 ((x1_1.1).flatMap e29)), (6, .int .i64 z16.2), (7, .int .i64 z11.1), (9, .ptr 0 3 0), (154, .bool true)]) (by kernel_rfl) ?_
        exact hj17 (true, z16.2)
       ·refine ok_if (fun hb15 => ?_) (fun hb15 => ?_)
        ·let E20 : Env := [(126, .bool (!decide (x8_3.2 = 0))), (125, .bool (!decide (x8_3.2 = 0))), (124, .int .i64 x8_3.2), (0, .str a0), (3, .vec (x1_1.1).length 3 ((x1_1.1).flatMap e29)), (6, .int .i64 z16.2), (7, .int .i64 z11.1), (9, .ptr 0 3 0), (10, .vec (x8_3.1).length 3 ((x8_3.1).flatMap e29)), (11, .int .i64 x8_3.2)]
         let E22 : Env := [(131, .bool (!decide ((x8_3.1.length : Int) = 1))), (130, .bool (!decide ((x8_3.1.length : Int) = 1))), (129, .bool (!decide ((x8_3.1.length : Int) = 1))), (128, .int .i64 (x8_3.1.length : Int)), (127, .vec (x8_3.1).length 3 ((x8_3.1).flatMap e29)), (126, .bool false), (125, .bool false), (124, .int .i64 x8_3.2), (0, .str a0), (3, .vec (x1_1.1).length 3 ((x1_1.1).flatMap e29)), (6, .int .i64 z16.2), (7, .int .i64 z11.1), (9, .ptr 0 3 0), (10, .vec (x8_3.1).length 3 ((x8_3.1).flatMap e29)), (11, .int .i64 x8_3.2)]
         let E23 : Env := [(154, .bool true), (153, .tuple []), (152, .tuple []), (151, .tuple []), (150, .tuple []), (149, .tuple []), (148, .tuple []), (147, .tuple []), (146, .tuple []), (145, .tuple []), (144, .tuple []), (143, .tuple []), (142, .tuple []), (141, .tuple []), (140, .bool true), (139, .bool true), (138, .tuple []), (137, .tuple []), (136, .tuple []), (135, .tuple []), (134, .tuple []), (133, .tuple []), (132, .tuple []), (131, .bool true), (130, .bool true), (129, .bool true), (128, .int .i64 (x8_3.1.length : Int)), (127, .vec (x8_3.1).length 3 ((x8_3.1).flatMap e29)), (126, .bool false), (125, .bool false), (124, .int .i64 x8_3.2), (0, .str a0), (3, .vec (x1_1.1).length 3 ((x1_1.1).flatMap e29)), (6, .int .i64 z16.2), (7, .int .i64 z11.1), (9, .ptr 0 3 0), (10, .vec (x8_3.1).length 3 ((x8_3.1).flatMap e29)), (11, .int .i64 x8_3.2)]
         refine ok_draw (p' := nav [0] g4p37) (env' := E23) (H' := (mkH [⟨[.int .i64 x6_2.f0, .str x6_2.f1, .int .i64 x6_2.f2], 3, false⟩])) (hs := []) [(0, 0, 0), (1, 0, 0), (3, 0, 0), (7, 0, 0), (15, 0, 0), (31, 0, 0), (63, 0, 0), (127, 0, 0), (255, 0, 0), (511, 0, 0), (1023, 0, 0), (2047, 0, 0), (255, 0, 0), (4351, 0, 0), (16383, 0, 0), (32767, 0, 0), (65535, 0, 0), (131071, 0, 0), (262143, 0, 0), (524287, 0, 0), (1048575, 0, 0), (131071, 0, 0), (2228223, 0, 0), (8388607, 0, 0), (16777215, 0, 0), (33554431, 0, 0), (67108863, 0, 0), (134217727, 0, 0), (268435455, 0, 0), (536870911, 0, 0), (1073741823, 0, 0)] (by kernel_rfl) (by kernel_rfl) (by kernel_rfl) (opsD_run 3 (l' := (opsAt g4p37).toList.drop 3) (env' := E20) (H' := (mkH [⟨[.int .i64 x6_2.f0, .str x6_2.f1, .int .i64 x6_2.f2], 3, false⟩])) (hs := []) (by kernel_rfl) (opsD_env (env' := [(126, .bool false), (125, .bool false), (124, .int .i64 x8_3.2), (0, .str a0), (3, .vec (x1_1.1).length 3 ((x1_1.1).flatMap e29)), (6, .int .i64 z16.2), (7, .int .i64 z11.1), (9, .ptr 0 3 0), (10, .vec (x8_3.1).length 3 ((x8_3.1).flatMap e29)), (11, .int .i64 x8_3.2)]) (congrArg (fun z : Bool => ([(126, .bool z), (125, .bool z), (124, .int .i64 x8_3.2), (0, .str a0), (3, .vec (x1_1.1).length 3 ((x1_1.1).flatMap e29)), (6, .int .i64 z16.2), (7, .int .i64 z11.1), (9, .ptr 0 3 0), (10, .vec (x8_3.1).length 3 ((x8_3.1).flatMap e29)), (11, .int .i64 x8_3.2)] : Env)) hb14) (opsD_run 5 (l' := (opsAt g4p37).toList.drop 8) (env' := E22) (H' := (mkH [⟨[.int .i64 x6_2.f0, .str x6_2.f1, .int .i64 x6_2.f2], 3, false⟩])) (hs := []) (by kernel_rfl) (opsD_env (env' := [(131, .bool true), (130, .bool true), (129, .bool true), (128, .int .i64 (x8_3.1.length : Int)), (127, .vec (x8_3.1).length 3 ((x8_3.1).flatMap e29)), (126, .bool false), (125, .bool false), (124, .int .i64 x8_3.2), (0, .str a0), (3, .vec (x1_1.1).length 3 ((x1_1.1).flatMap e29)), (6, .int .i64 z16.2), (7, .int .i64 z11.1), (9, .ptr 0 3 0), (10, .vec (x8_3.1).length 3 ((x8_3.1).flatMap e29)), (11, .int .i64 x8_3.2)]) (congrArg (fun z : Bool => ([(131, .bool z), (130, .bool z), (129, .bool z), (128, .int .i64 (x8_3.1.length : Int)), (127, .vec (x8_3.1).length 3 ((x8_3.1).flatMap e29)), (126, .bool false), (125, .bool false), (124, .int .i64 x8_3.2), (0, .str a0), (3, .vec (x1_1.1).length 3 ((x1_1.1).flatMap e29)), (6, .int .i64 z16.2), (7, .int .i64 z11.1), (9, .ptr 0 3 0), (10, .vec (x8_3.1).length 3 ((x8_3.1).flatMap e29)), (11, .int .i64 x8_3.2)] : Env)) hb15) (opsD_run 23 (l' := (opsAt g4p37).toList.drop 31) (env' := E23) (H' := (mkH [⟨[.int .i64 x6_2.f0, .str x6_2.f1, .int .i64 x6_2.f2], 3, false⟩])) (hs := []) (by kernel_rfl) (.nil)))))) (by kernel_rfl) (by kernel_rfl) (by kernel_rfl) ?_
         refine ok_keep [0, 3, 6, 7, 9, 154] (env' := [(0, .str a0), (3, .vec (x1_1.1).length 3 ((x1_1.1).flatMap e29)), (6, .int .i64 z16.2), (7, .int .i64 z11.1), (9, .ptr 0 3 0), (154, .bool true)]) (by kernel_rfl) ?_
         exact hj17 (true, z16.2)
        ·refine ok_bind (fun x9_9 hx9_9 => ?_)
         refine ok_if (fun hb16 => ?_) (fun hb16 => ?_)
         ·let E20 : Env := [(126, .bool (!decide (x8_3.2 = 0))), (125, .bool (!decide (x8_3.2 = 0))), (124, .int .i64 x8_3.2), (0, .str a0), (3, .vec (x1_1.1).length 3 ((x1_1.1).flatMap e29)), (6, .int .i64 z16.2), (7, .int .i64 z11.1), (9, .ptr 0 3 0), (10, .vec (x8_3.1).length 3 ((x8_3.1).flatMap e29)), (11, .int .i64 x8_3.2)]
          let E22 : Env := [(131, .bool (!decide ((x8_3.1.length : Int) = 1))), (130, .bool (!decide ((x8_3.1.length : Int) = 1))), (129, .bool (!decide ((x8_3.1.length : Int) = 1))), (128, .int .i64 (x8_3.1.length : Int)), (127, .vec (x8_3.1).length 3 ((x8_3.1).flatMap e29)), (126, .bool false), (125, .bool false), (124, .int .i64 x8_3.2), (0, .str a0), (3, .vec (x1_1.1).length 3 ((x1_1.1).flatMap e29)), (6, .int .i64 z16.2), (7, .int .i64 z11.1), (9, .ptr 0 3 0), (10, .vec (x8_3.1).length 3 ((x8_3.1).flatMap e29)), (11, .int .i64 x8_3.2)]
          let E24 : Env := [(132, .vec (x8_3.1).length 3 ((x8_3.1).flatMap e29)), (131, .bool false), (130, .bool false), (129, .bool false), (128, .int .i64 (x8_3.1.length : Int)), (127, .vec (x8_3.1).length 3 ((x8_3.1).flatMap e29)), (126, .bool false), (125, .bool false), (124, .int .i64 x8_3.2), (0, .str a0), (3, .vec (x1_1.1).length 3 ((x1_1.1).flatMap e29)), (6, .int .i64 z16.2), (7, .int .i64 z11.1), (9, .ptr 0 3 0), (10, .vec (x8_3.1).length 3 ((x8_3.1).flatMap e29)), (11, .int .i64 x8_3.2)]
          let E25 : Env := ((140, .bool (!(eqL x9_9.f1 x6_2.f1))) :: (139, .bool (!(eqL x9_9.f1 x6_2.f1))) :: (138, .bool (!(eqL x9_9.f1 x6_2.f1))) :: (137, .str x6_2.f1) :: (136, .ptr 0 3 1) :: (135, .str x9_9.f1) :: (134, .vptr [.str x9_9.f1, .int .i64 x9_9.f2]) :: (133, .vptr [.int .i64 x9_9.f0, .str x9_9.f1, .int .i64 x9_9.f2]) :: E24)
          let E26 : Env := [(154, .bool true), (153, .tuple []), (152, .tuple []), (151, .tuple []), (150, .tuple []), (149, .tuple []), (148, .tuple []), (147, .tuple []), (146, .tuple []), (145, .tuple []), (144, .tuple []), (143, .tuple []), (142, .tuple []), (141, .tuple []), (140, .bool true), (139, .bool true), (138, .bool true), (137, .str x6_2.f1), (136, .ptr 0 3 1), (135, .str x9_9.f1), (134, .vptr [.str x9_9.f1, .int .i64 x9_9.f2]), (133, .vptr [.int .i64 x9_9.f0, .str x9_9.f1, .int .i64 x9_9.f2]), (132, .vec (x8_3.1).length 3 ((x8_3.1).flatMap e29)), (131, .bool false), (130, .bool false), (129, .bool false), (128, .int .i64 (x8_3.1.length : Int)), (127, .vec (x8_3.1).length 3 ((x8_3.1).flatMap e29)), (126, .bool false), (125, .bool false), (124, .int .i64 x8_3.2), (0, .str a0), (3, .vec (x1_1.1).length 3 ((x1_1.1).flatMap e29)), (6, .int .i64 z16.2), (7, .int .i64 z11.1), (9, .ptr 0 3 0), (10, .vec (x8_3.1).length 3 ((x8_3.1).flatMap e29)), (11, .int .i64 x8_3.2)]
          refine ok_draw (p' := nav [0] g4p37) (env' := E26) (H' := (mkH [⟨[.int .i64 x6_2.f0, .str x6_2.f1, .int .i64 x6_2.f2], 3, false⟩])) (hs := []) [(0, 0, 0), (1, 0, 0), (3, 0, 0), (7, 0, 0), (15, 0, 0), (31, 0, 0), (63, 0, 0), (127, 0, 0), (255, 0, 0), (511, 0, 0), (1023, 0, 0), (2047, 0, 0), (255, 0, 0), (4351, 0, 0), (16383, 0, 0), (32767, 0, 0), (65535, 0, 0), (131071, 0, 0), (262143, 0, 0), (524287, 0, 0), (1048575, 0, 0), (131071, 0, 0), (2228223, 0, 0), (8388607, 0, 0), (16777215, 0, 0), (33554431, 0, 0), (67108863, 0, 0), (134217727, 0, 0), (268435455, 0, 0), (536870911, 0, 0), (1073741823, 0, 0)] (by kernel_rfl) (by kernel_rfl) (by kernel_rfl) (opsD_run 3 (l' := (opsAt g4p37).toList.drop 3) (env' := E20) (H' := (mkH [⟨[.int .i64 x6_2.f0, .str x6_2.f1, .int .i64 x6_2.f2], 3, false⟩])) (hs := []) (by kernel_rfl) (opsD_env (env' := [(126, .bool false), (125, .bool false), (124, .int .i64 x8_3.2), (0, .str a0), (3, .vec (x1_1.1).length 3 ((x1_1.1).flatMap e29)), (6, .int .i64 z16.2), (7, .int .i64 z11.1), (9, .ptr 0 3 0), (10, .vec (x8_3.1).length 3 ((x8_3.1).flatMap e29)), (11, .int .i64 x8_3.2)]) (congrArg (fun z : Bool => ([(126, .bool z), (125, .bool z), (124, .int .i64 x8_3.2), (0, .str a0), (3, .vec (x1_1.1).length 3 ((x1_1.1).flatMap e29)), (6, .int .i64 z16.2), (7, .int .i64 z11.1), (9, .ptr 0 3 0), (10, .vec (x8_3.1).length 3 ((x8_3.1).flatMap e29)), (11, .int .i64 x8_3.2)] : Env)) hb14) (opsD_run 5 (l' := (opsAt g4p37).toList.drop 8) (env' := E22) (H' := (mkH [⟨[.int .i64 x6_2.f0, .str x6_2.f1, .int .i64 x6_2.f2], 3, false⟩])) (hs := []) (by kernel_rfl) (opsD_env (env' := [(131, .bool false), (130, .bool false), (129, .bool false), (128, .int .i64 (x8_3.1.length : Int)), (127, .vec (x8_3.1).length 3 ((x8_3.1).flatMap e29)), (126, .bool false), (125, .bool false), (124, .int .i64 x8_3.2), (0, .str a0), (3, .vec (x1_1.1).length 3 ((x1_1.1).flatMap e29)), (6, .int .i64 z16.2), (7, .int .i64 z11.1), (9, .ptr 0 3 0), (10, .vec (x8_3.1).length 3 ((x8_3.1).flatMap e29)), (11, .int .i64 x8_3.2)]) (congrArg (fun z : Bool => ([(131, .bool z), (130, .bool z), (129, .bool z), (128, .int .i64 (x8_3.1.length : Int)), (127, .vec (x8_3.1).length 3 ((x8_3.1).flatMap e29)), (126, .bool false), (125, .bool false), (124, .int .i64 x8_3.2), (0, .str a0), (3, .vec (x1_1.1).length 3 ((x1_1.1).flatMap e29)), (6, .int .i64 z16.2), (7, .int .i64 z11.1), (9, .ptr 0 3 0), (10, .vec (x8_3.1).length 3 ((x8_3.1).flatMap e29)), (11, .int .i64 x8_3.2)] : Env)) hb15) (opsD_run 1 (l' := (opsAt g4p37).toList.drop 9) (env' := E24) (H' := (mkH [⟨[.int .i64 x6_2.f0, .str x6_2.f1, .int .i64 x6_2.f2], 3, false⟩])) (hs := []) (by kernel_rfl) (opsD_chk (l' := (opsAt g4p37).toList.drop 10) (env' := ((133, .vptr [.int .i64 x9_9.f0, .str x9_9.f1, .int .i64 x9_9.f2]) :: E24)) (hs := []) (x := x9_9) (fun (x9_9 : S28) => (.vptr [.int .i64 x9_9.f0, .str x9_9.f1, .int .i64 x9_9.f2], (mkH [⟨[.int .i64 x6_2.f0, .str x6_2.f1, .int .i64 x6_2.f2], 3, false⟩]))) (vidxH (sz := 3) e29_len (by kernel_rfl)) hx9_9 (by kernel_rfl) (opsD_run 7 (l' := (opsAt g4p37).toList.drop 17) (env' := E25) (H' := (mkH [⟨[.int .i64 x6_2.f0, .str x6_2.f1, .int .i64 x6_2.f2], 3, false⟩])) (hs := []) (by kernel_rfl) (opsD_env (env' := [(140, .bool true), (139, .bool true), (138, .bool true), (137, .str x6_2.f1), (136, .ptr 0 3 1), (135, .str x9_9.f1), (134, .vptr [.str x9_9.f1, .int .i64 x9_9.f2]), (133, .vptr [.int .i64 x9_9.f0, .str x9_9.f1, .int .i64 x9_9.f2]), (132, .vec (x8_3.1).length 3 ((x8_3.1).flatMap e29)), (131, .bool false), (130, .bool false), (129, .bool false), (128, .int .i64 (x8_3.1.length : Int)), (127, .vec (x8_3.1).length 3 ((x8_3.1).flatMap e29)), (126, .bool false), (125, .bool false), (124, .int .i64 x8_3.2), (0, .str a0), (3, .vec (x1_1.1).length 3 ((x1_1.1).flatMap e29)), (6, .int .i64 z16.2), (7, .int .i64 z11.1), (9, .ptr 0 3 0), (10, .vec (x8_3.1).length 3 ((x8_3.1).flatMap e29)), (11, .int .i64 x8_3.2)]) (congrArg (fun z : Bool => ([(140, .bool z), (139, .bool z), (138, .bool z), (137, .str x6_2.f1), (136, .ptr 0 3 1), (135, .str x9_9.f1), (134, .vptr [.str x9_9.f1, .int .i64 x9_9.f2]), (133, .vptr [.int .i64 x9_9.f0, .str x9_9.f1, .int .i64 x9_9.f2]), (132, .vec (x8_3.1).length 3 ((x8_3.1).flatMap e29)), (131, .bool false), (130, .bool false), (129, .bool false), (128, .int .i64 (x8_3.1.length : Int)), (127, .vec (x8_3.1).length 3 ((x8_3.1).flatMap e29)), (126, .bool false), (125, .bool false), (124, .int .i64 x8_3.2), (0, .str a0), (3, .vec (x1_1.1).length 3 ((x1_1.1).flatMap e29)), (6, .int .i64 z16.2), (7, .int .i64 z11.1), (9, .ptr 0 3 0), (10, .vec (x8_3.1).length 3 ((x8_3.1).flatMap e29)), (11, .int .i64 x8_3.2)] : Env)) hb16) (opsD_run 14 (l' := (opsAt g4p37).toList.drop 31) (env' := E26) (H' := (mkH [⟨[.int .i64 x6_2.f0, .str x6_2.f1, .int .i64 x6_2.f2], 3, false⟩])) (hs := []) (by kernel_rfl) (.nil)))))))))) (by kernel_rfl) (by kernel_rfl) (by kernel_rfl) ?_
          refine ok_keep [0, 3, 6, 7, 9, 154] (env' := [(0, .str a0), (3, .vec (x1_1.1).length 3 ((x1_1.1).flatMap e29)), (6, .int .i64 z16.2), (7, .int .i64 z11.1), (9, .ptr 0 3 0), (154, .bool true)]) (by kernel_rfl) ?_
          exact hj17 (true, z16.2)
         ·refine ok_bind (fun x9_18 hx9_18 => ?_)
          refine ok_if (fun hb17 => ?_) (fun hb17 => ?_)
          ·let E20 : Env := [(126, .bool (!decide (x8_3.2 = 0))), (125, .bool (!decide (x8_3.2 = 0))), (124, .int .i64 x8_3.2), (0, .str a0), (3, .vec (x1_1.1).length 3 ((x1_1.1).flatMap e29)), (6, .int .i64 z16.2), (7, .int .i64 z11.1), (9, .ptr 0 3 0), (10, .vec (x8_3.1).length 3 ((x8_3.1).flatMap e29)), (11, .int .i64 x8_3.2)]
           let E22 : Env := [(131, .bool (!decide ((x8_3.1.length : Int) = 1))), (130, .bool (!decide ((x8_3.1.length : Int) = 1))), (129, .bool (!decide ((x8_3.1.length : Int) = 1))), (128, .int .i64 (x8_3.1.length : Int)), (127, .vec (x8_3.1).length 3 ((x8_3.1).flatMap e29)), (126, .bool false), (125, .bool false), (124, .int .i64 x8_3.2), (0, .str a0), (3, .vec (x1_1.1).length 3 ((x1_1.1).flatMap e29)), (6, .int .i64 z16.2), (7, .int .i64 z11.1), (9, .ptr 0 3 0), (10, .vec (x8_3.1).length 3 ((x8_3.1).flatMap e29)), (11, .int .i64 x8_3.2)]
           let E24 : Env := [(132, .vec (x8_3.1).length 3 ((x8_3.1).flatMap e29)), (131, .bool false), (130, .bool false), (129, .bool false), (128, .int .i64 (x8_3.1.length : Int)), (127, .vec (x8_3.1).length 3 ((x8_3.1).flatMap e29)), (126, .bool false), (125, .bool false), (124, .int .i64 x8_3.2), (0, .str a0), (3, .vec (x1_1.1).length 3 ((x1_1.1).flatMap e29)), (6, .int .i64 z16.2), (7, .int .i64 z11.1), (9, .ptr 0 3 0), (10, .vec (x8_3.1).length 3 ((x8_3.1).flatMap e29)), (11, .int .i64 x8_3.2)]
           let E25 : Env := ((140, .bool (!(eqL x9_9.f1 x6_2.f1))) :: (139, .bool (!(eqL x9_9.f1 x6_2.f1))) :: (138, .bool (!(eqL x9_9.f1 x6_2.f1))) :: (137, .str x6_2.f1) :: (136, .ptr 0 3 1) :: (135, .str x9_9.f1) :: (134, .vptr [.str x9_9.f1, .int .i64 x9_9.f2]) :: (133, .vptr [.int .i64 x9_9.f0, .str x9_9.f1, .int .i64 x9_9.f2]) :: E24)
           let E27 : Env := [(141, .vec (x8_3.1).length 3 ((x8_3.1).flatMap e29)), (140, .bool false), (139, .bool false), (138, .bool false), (137, .str x6_2.f1), (136, .ptr 0 3 1), (135, .str x9_9.f1), (134, .vptr [.str x9_9.f1, .int .i64 x9_9.f2]), (133, .vptr [.int .i64 x9_9.f0, .str x9_9.f1, .int .i64 x9_9.f2]), (132, .vec (x8_3.1).length 3 ((x8_3.1).flatMap e29)), (131, .bool false), (130, .bool false), (129, .bool false), (128, .int .i64 (x8_3.1.length : Int)), (127, .vec (x8_3.1).length 3 ((x8_3.1).flatMap e29)), (126, .bool false), (125, .bool false), (124, .int .i64 x8_3.2), (0, .str a0), (3, .vec (x1_1.1).length 3 ((x1_1.1).flatMap e29)), (6, .int .i64 z16.2), (7, .int .i64 z11.1), (9, .ptr 0 3 0), (10, .vec (x8_3.1).length 3 ((x8_3.1).flatMap e29)), (11, .int .i64 x8_3.2)]
           let E28 : Env := ((148, .bool (!decide (x9_18.f0 = x6_2.f0))) :: (147, .bool (!decide (x9_18.f0 = x6_2.f0))) :: (146, .int .i64 x6_2.f0) :: (145, .ptr 0 3 0) :: (144, .int .i64 x9_18.f0) :: (143, .vptr [.int .i64 x9_18.f0, .str x9_18.f1, .int .i64 x9_18.f2]) :: (142, .vptr [.int .i64 x9_18.f0, .str x9_18.f1, .int .i64 x9_18.f2]) :: E27)
           let E29 : Env := [(154, .bool (!(eqL x6_2.f1 [46]))), (153, .bool (!(eqL x6_2.f1 [46]))), (152, .bool (!(eqL x6_2.f1 [46]))), (151, .bool (eqL x6_2.f1 [46])), (150, .str x6_2.f1), (149, .ptr 0 3 1), (148, .bool true), (147, .bool true), (146, .int .i64 x6_2.f0), (145, .ptr 0 3 0), (144, .int .i64 x9_18.f0), (143, .vptr [.int .i64 x9_18.f0, .str x9_18.f1, .int .i64 x9_18.f2]), (142, .vptr [.int .i64 x9_18.f0, .str x9_18.f1, .int .i64 x9_18.f2]), (141, .vec (x8_3.1).length 3 ((x8_3.1).flatMap e29)), (140, .bool false), (139, .bool false), (138, .bool false), (137, .str x6_2.f1), (136, .ptr 0 3 1), (135, .str x9_9.f1), (134, .vptr [.str x9_9.f1, .int .i64 x9_9.f2]), (133, .vptr [.int .i64 x9_9.f0, .str x9_9.f1, .int .i64 x9_9.f2]), (132, .vec (x8_3.1).length 3 ((x8_3.1).flatMap e29)), (131, .bool false), (130, .bool false), (129, .bool false), (128, .int .i64 (x8_3.1.length : Int)), (127, .vec (x8_3.1).length 3 ((x8_3.1).flatMap e29)), (126, .bool false), (125, .bool false), (124, .int .i64 x8_3.2), (0, .str a0), (3, .vec (x1_1.1).length 3 ((x1_1.1).flatMap e29)), (6, .int .i64 z16.2), (7, .int .i64 z11.1), (9, .ptr 0 3 0), (10, .vec (x8_3.1).length 3 ((x8_3.1).flatMap e29)), (11, .int .i64 x8_3.2)]
           refine ok_draw (p' := nav [0] g4p37) (env' := E29) (H' := (mkH [⟨[.int .i64 x6_2.f0, .str x6_2.f1, .int .i64 x6_2.f2], 3, false⟩])) (hs := []) [(0, 0, 0), (1, 0, 0), (3, 0, 0), (7, 0, 0), (15, 0, 0), (31, 0, 0), (63, 0, 0), (127, 0, 0), (255, 0, 0), (511, 0, 0), (1023, 0, 0), (2047, 0, 0), (255, 0, 0), (4351, 0, 0), (16383, 0, 0), (32767, 0, 0), (65535, 0, 0), (131071, 0, 0), (262143, 0, 0), (524287, 0, 0), (1048575, 0, 0), (131071, 0, 0), (2228223, 0, 0), (8388607, 0, 0), (16777215, 0, 0), (33554431, 0, 0), (67108863, 0, 0), (134217727, 0, 0), (268435455, 0, 0), (536870911, 0, 0), (1073741823, 0, 0)] (by kernel_rfl) (by kernel_rfl) (by kernel_rfl) (opsD_run 3 (l' := (opsAt g4p37).toList.drop 3) (env' := E20) (H' := (mkH [⟨[.int .i64 x6_2.f0, .str x6_2.f1, .int .i64 x6_2.f2], 3, false⟩])) (hs := []) (by kernel_rfl) (opsD_env (env' := [(126, .bool false), (125, .bool false), (124, .int .i64 x8_3.2), (0, .str a0), (3, .vec (x1_1.1).length 3 ((x1_1.1).flatMap e29)), (6, .int .i64 z16.2), (7, .int .i64 z11.1), (9, .ptr 0 3 0), (10, .vec (x8_3.1).length 3 ((x8_3.1).flatMap e29)), (11, .int .i64 x8_3.2)]) (congrArg (fun z : Bool => ([(126, .bool z), (125, .bool z), (124, .int .i64 x8_3.2), (0, .str a0), (3, .vec (x1_1.1).length 3 ((x1_1.1).flatMap e29)), (6, .int .i64 z16.2), (7, .int .i64 z11.1), (9, .ptr 0 3 0), (10, .vec (x8_3.1).length 3 ((x8_3.1).flatMap e29)), (11, .int .i64 x8_3.2)] : Env)) hb14) (opsD_run 5 (l' := (opsAt g4p37).toList.drop 8) (env' := E22) (H' := (mkH [⟨[.int .i64 x6_2.f0, .str x6_2.f1, .int .i64 x6_2.f2], 3, false⟩])) (hs := []) (by kernel_rfl) (opsD_env (env' := [(131, .bool false), (130, .bool false), (129, .bool false), (128, .int .i64 (x8_3.1.length : Int)), (127, .vec (x8_3.1).length 3 ((x8_3.1).flatMap e29)), (126, .bool false), (125, .bool false), (124, .int .i64 x8_3.2), (0, .str a0), (3, .vec (x1_1.1).length 3 ((x1_1.1).flatMap e29)), (6, .int .i64 z16.2), (7, .int .i64 z11.1), (9, .ptr 0 3 0), (10, .vec (x8_3.1).length 3 ((x8_3.1).flatMap e29)), (11, .int .i64 x8_3.2)]) (congrArg (fun z : Bool => ([(131, .bool z), (130, .bool z), (129, .bool z), (128, .int .i64 (x8_3.1.length : Int)), (127, .vec (x8_3.1).length 3 ((x8_3.1).flatMap e29)), (126, .bool false), (125, .bool false), (124, .int .i64 x8_3.2), (0, .str a0), (3, .vec (x1_1.1).length 3 ((x1_1.1).flatMap e29)), (6, .int .i64 z16.2), (7, .int .i64 z11.1), (9, .ptr 0 3 0), (10, .vec (x8_3.1).length 3 ((x8_3.1).flatMap e29)), (11, .int .i64 x8_3.2)] : Env)) hb15) (opsD_run 1 (l' := (opsAt g4p37).toList.drop 9) (env' := E24) (H' := (mkH [⟨[.int .i64 x6_2.f0, .str x6_2.f1, .int .i64 x6_2.f2], 3, false⟩])) (hs := []) (by kernel_rfl) (opsD_chk (l' := (opsAt g4p37).toList.drop 10) (env' := ((133, .vptr [.int .i64 x9_9.f0, .str x9_9.f1, .int .i64 x9_9.f2]) :: E24)) (hs := []) (x := x9_9) (fun (x9_9 : S28) => (.vptr [.int .i64 x9_9.f0, .str x9_9.f1, .int .i64 x9_9.f2], (mkH [⟨[.int .i64 x6_2.f0, .str x6_2.f1, .int .i64 x6_2.f2], 3, false⟩]))) (vidxH (sz := 3) e29_len (by kernel_rfl)) hx9_9 (by kernel_rfl) (opsD_run 7 (l' := (opsAt g4p37).toList.drop 17) (env' := E25) (H' := (mkH [⟨[.int .i64 x6_2.f0, .str x6_2.f1, .int .i64 x6_2.f2], 3, false⟩])) (hs := []) (by kernel_rfl) (opsD_env (env' := [(140, .bool false), (139, .bool false), (138, .bool false), (137, .str x6_2.f1), (136, .ptr 0 3 1), (135, .str x9_9.f1), (134, .vptr [.str x9_9.f1, .int .i64 x9_9.f2]), (133, .vptr [.int .i64 x9_9.f0, .str x9_9.f1, .int .i64 x9_9.f2]), (132, .vec (x8_3.1).length 3 ((x8_3.1).flatMap e29)), (131, .bool false), (130, .bool false), (129, .bool false), (128, .int .i64 (x8_3.1.length : Int)), (127, .vec (x8_3.1).length 3 ((x8_3.1).flatMap e29)), (126, .bool false), (125, .bool false), (124, .int .i64 x8_3.2), (0, .str a0), (3, .vec (x1_1.1).length 3 ((x1_1.1).flatMap e29)), (6, .int .i64 z16.2), (7, .int .i64 z11.1), (9, .ptr 0 3 0), (10, .vec (x8_3.1).length 3 ((x8_3.1).flatMap e29)), (11, .int .i64 x8_3.2)]) (congrArg (fun z : Bool => ([(140, .bool z), (139, .bool z), (138, .bool z), (137, .str x6_2.f1), (136, .ptr 0 3 1), (135, .str x9_9.f1), (134, .vptr [.str x9_9.f1, .int .i64 x9_9.f2]), (133, .vptr [.int .i64 x9_9.f0, .str x9_9.f1, .int .i64 x9_9.f2]), (132, .vec (x8_3.1).length 3 ((x8_3.1).flatMap e29)), (131, .bool false), (130, .bool false), (129, .bool false), (128, .int .i64 (x8_3.1.length : Int)), (127, .vec (x8_3.1).length 3 ((x8_3.1).flatMap e29)), (126, .bool false), (125, .bool false), (124, .int .i64 x8_3.2), (0, .str a0), (3, .vec (x1_1.1).length 3 ((x1_1.1).flatMap e29)), (6, .int .i64 z16.2), (7, .int .i64 z11.1), (9, .ptr 0 3 0), (10, .vec (x8_3.1).length 3 ((x8_3.1).flatMap e29)), (11, .int .i64 x8_3.2)] : Env)) hb16) (opsD_run 1 (l' := (opsAt g4p37).toList.drop 18) (env' := E27) (H' := (mkH [⟨[.int .i64 x6_2.f0, .str x6_2.f1, .int .i64 x6_2.f2], 3, false⟩])) (hs := []) (by kernel_rfl) (opsD_chk (l' := (opsAt g4p37).toList.drop 19) (env' := ((142, .vptr [.int .i64 x9_18.f0, .str x9_18.f1, .int .i64 x9_18.f2]) :: E27)) (hs := []) (x := x9_18) (fun (x9_18 : S28) => (.vptr [.int .i64 x9_18.f0, .str x9_18.f1, .int .i64 x9_18.f2], (mkH [⟨[.int .i64 x6_2.f0, .str x6_2.f1, .int .i64 x6_2.f2], 3, false⟩]))) (vidxH (sz := 3) e29_len (by kernel_rfl)) hx9_18 (by kernel_rfl) (opsD_run 6 (l' := (opsAt g4p37).toList.drop 25) (env' := E28) (H' := (mkH [⟨[.int .i64 x6_2.f0, .str x6_2.f1, .int .i64 x6_2.f2], 3, false⟩])) (hs := []) (by kernel_rfl) (opsD_env (env' := [(148, .bool true), (147, .bool true), (146, .int .i64 x6_2.f0), (145, .ptr 0 3 0), (144, .int .i64 x9_18.f0), (143, .vptr [.int .i64 x9_18.f0, .str x9_18.f1, .int .i64 x9_18.f2]), (142, .vptr [.int .i64 x9_18.f0, .str x9_18.f1, .int .i64 x9_18.f2]), (141, .vec (x8_3.1).length 3 ((x8_3.1).flatMap e29)), (140, .bool false), (139, .bool false), (138, .bool false), (137, .str x6_2.f1), (136, .ptr 0 3 1), (135, .str x9_9.f1), (134, .vptr [.str x9_9.f1, .int .i64 x9_9.f2]), (133, .vptr [.int .i64 x9_9.f0, .str x9_9.f1, .int .i64 x9_9.f2]), (132, .vec (x8_3.1).length 3 ((x8_3.1).flatMap e29)), (131, .bool false), (130, .bool false), (129, .bool false), (128, .int .i64 (x8_3.1.length : Int)), (127, .vec (x8_3.1).length 3 ((x8_3.1).flatMap e29)), (126, .bool false), (125, .bool false), (124, .int .i64 x8_3.2), (0, .str a0), (3, .vec (x1_1.1).length 3 ((x1_1.1).flatMap e29)), (6, .int .i64 z16.2), (7, .int .i64 z11.1), (9, .ptr 0 3 0), (10, .vec (x8_3.1).length 3 ((x8_3.1).flatMap e29)), (11, .int .i64 x8_3.2)]) (congrArg (fun z : Bool => ([(148, .bool z), (147, .bool z), (146, .int .i64 x6_2.f0), (145, .ptr 0 3 0), (144, .int .i64 x9_18.f0), (143, .vptr [.int .i64 x9_18.f0, .str x9_18.f1, .int .i64 x9_18.f2]), (142, .vptr [.int .i64 x9_18.f0, .str x9_18.f1, .int .i64 x9_18.f2]), (141, .vec (x8_3.1).length 3 ((x8_3.1).flatMap e29)), (140, .bool false), (139, .bool false), (138, .bool false), (137, .str x6_2.f1), (136, .ptr 0 3 1), (135, .str x9_9.f1), (134, .vptr [.str x9_9.f1, .int .i64 x9_9.f2]), (133, .vptr [.int .i64 x9_9.f0, .str x9_9.f1, .int .i64 x9_9.f2]), (132, .vec (x8_3.1).length 3 ((x8_3.1).flatMap e29)), (131, .bool false), (130, .bool false), (129, .bool false), (128, .int .i64 (x8_3.1.length : Int)), (127, .vec (x8_3.1).length 3 ((x8_3.1).flatMap e29)), (126, .bool false), (125, .bool false), (124, .int .i64 x8_3.2), (0, .str a0), (3, .vec (x1_1.1).length 3 ((x1_1.1).flatMap e29)), (6, .int .i64 z16.2), (7, .int .i64 z11.1), (9, .ptr 0 3 0), (10, .vec (x8_3.1).length 3 ((x8_3.1).flatMap e29)), (11, .int .i64 x8_3.2)] : Env)) hb17) (opsD_run 6 (l' := (opsAt g4p37).toList.drop 31) (env' := E29) (H' := (mkH [⟨[.int .i64 x6_2.f0, .str x6_2.f1, .int .i64 x6_2.f2], 3, false⟩])) (hs := []) (by kernel_rfl) (.nil)))))))))))))) (by kernel_rfl) (by kernel_rfl) (by kernel_rfl) ?_
           refine ok_keep [0, 3, 6, 7, 9, 154] (env' := [(0, .str a0), (3, .vec (x1_1.1).length 3 ((x1_1.1).flatMap e29)), (6, .int .i64 z16.2), (7, .int .i64 z11.1), (9, .ptr 0 3 0), (154, .bool (!(eqL x6_2.f1 [46])))]) (by kernel_rfl) ?_
           exact hj17 (!(eqL x6_2.f1 [46]), z16.2)
          ·let E20 : Env := [(126, .bool (!decide (x8_3.2 = 0))), (125, .bool (!decide (x8_3.2 = 0))), (124, .int .i64 x8_3.2), (0, .str a0), (3, .vec (x1_1.1).length 3 ((x1_1.1).flatMap e29)), (6, .int .i64 z16.2), (7, .int .i64 z11.1), (9, .ptr 0 3 0), (10, .vec (x8_3.1).length 3 ((x8_3.1).flatMap e29)), (11, .int .i64 x8_3.2)]
           let E22 : Env := [(131, .bool (!decide ((x8_3.1.length : Int) = 1))), (130, .bool (!decide ((x8_3.1.length : Int) = 1))), (129, .bool (!decide ((x8_3.1.length : Int) = 1))), (128, .int .i64 (x8_3.1.length : Int)), (127, .vec (x8_3.1).length 3 ((x8_3.1).flatMap e29)), (126, .bool false), (125, .bool false), (124, .int .i64 x8_3.2), (0, .str a0), (3, .vec (x1_1.1).length 3 ((x1_1.1).flatMap e29)), (6, .int .i64 z16.2), (7, .int .i64 z11.1), (9, .ptr 0 3 0), (10, .vec (x8_3.1).length 3 ((x8_3.1).flatMap e29)), (11, .int .i64 x8_3.2)]
           let E24 : Env := [(132, .vec (x8_3.1).length 3 ((x8_3.1).flatMap e29)), (131, .bool false), (130, .bool false), (129, .bool false), (128, .int .i64 (x8_3.1.length : Int)), (127, .vec (x8_3.1).length 3 ((x8_3.1).flatMap e29)), (126, .bool false), (125, .bool false), (124, .int .i64 x8_3.2), (0, .str a0), (3, .vec (x1_1.1).length 3 ((x1_1.1).flatMap e29)), (6, .int .i64 z16.2), (7, .int .i64 z11.1), (9, .ptr 0 3 0), (10, .vec (x8_3.1).length 3 ((x8_3.1).flatMap e29)), (11, .int .i64 x8_3.2)]
           let E25 : Env := ((140, .bool (!(eqL x9_9.f1 x6_2.f1))) :: (139, .bool (!(eqL x9_9.f1 x6_2.f1))) :: (138, .bool (!(eqL x9_9.f1 x6_2.f1))) :: (137, .str x6_2.f1) :: (136, .ptr 0 3 1) :: (135, .str x9_9.f1) :: (134, .vptr [.str x9_9.f1, .int .i64 x9_9.f2]) :: (133, .vptr [.int .i64 x9_9.f0, .str x9_9.f1, .int .i64 x9_9.f2]) :: E24)
           let E27 : Env := [(141, .vec (x8_3.1).length 3 ((x8_3.1).flatMap e29)), (140, .bool false), (139, .bool false), (138, .bool false), (137, .str x6_2.f1), (136, .ptr 0 3 1), (135, .str x9_9.f1), (134, .vptr [.str x9_9.f1, .int .i64 x9_9.f2]), (133, .vptr [.int .i64 x9_9.f0, .str x9_9.f1, .int .i64 x9_9.f2]), (132, .vec (x8_3.1).length 3 ((x8_3.1).flatMap e29)), (131, .bool false), (130, .bool false), (129, .bool false), (128, .int .i64 (x8_3.1.length : Int)), (127, .vec (x8_3.1).length 3 ((x8_3.1).flatMap e29)), (126, .bool false), (125, .bool false), (124, .int .i64 x8_3.2), (0, .str a0), (3, .vec (x1_1.1).length 3 ((x1_1.1).flatMap e29)), (6, .int .i64 z16.2), (7, .int .i64 z11.1), (9, .ptr 0 3 0), (10, .vec (x8_3.1).length 3 ((x8_3.1).flatMap e29)), (11, .int .i64 x8_3.2)]
           let E28 : Env := ((148, .bool (!decide (x9_18.f0 = x6_2.f0))) :: (147, .bool (!decide (x9_18.f0 = x6_2.f0))) :: (146, .int .i64 x6_2.f0) :: (145, .ptr 0 3 0) :: (144, .int .i64 x9_18.f0) :: (143, .vptr [.int .i64 x9_18.f0, .str x9_18.f1, .int .i64 x9_18.f2]) :: (142, .vptr [.int .i64 x9_18.f0, .str x9_18.f1, .int .i64 x9_18.f2]) :: E27)
           let E30 : Env := [(154, .bool false), (153, .bool false), (152, .tuple []), (151, .tuple []), (150, .tuple []), (149, .tuple []), (148, .bool false), (147, .bool false), (146, .int .i64 x6_2.f0), (145, .ptr 0 3 0), (144, .int .i64 x9_18.f0), (143, .vptr [.int .i64 x9_18.f0, .str x9_18.f1, .int .i64 x9_18.f2]), (142, .vptr [.int .i64 x9_18.f0, .str x9_18.f1, .int .i64 x9_18.f2]), (141, .vec (x8_3.1).length 3 ((x8_3.1).flatMap e29)), (140, .bool false), (139, .bool false), (138, .bool false), (137, .str x6_2.f1), (136, .ptr 0 3 1), (135, .str x9_9.f1), (134, .vptr [.str x9_9.f1, .int .i64 x9_9.f2]), (133, .vptr [.int .i64 x9_9.f0, .str x9_9.f1, .int .i64 x9_9.f2]), (132, .vec (x8_3.1).length 3 ((x8_3.1).flatMap e29)), (131, .bool false), (130, .bool false), (129, .bool false), (128, .int .i64 (x8_3.1.length : Int)), (127, .vec (x8_3.1).length 3 ((x8_3.1).flatMap e29)), (126, .bool false), (125, .bool false), (124, .int .i64 x8_3.2), (0, .str a0), (3, .vec (x1_1.1).length 3 ((x1_1.1).flatMap e29)), (6, .int .i64 z16.2), (7, .int .i64 z11.1), (9, .ptr 0 3 0), (10, .vec (x8_3.1).length 3 ((x8_3.1).flatMap e29)), (11, .int .i64 x8_3.2)]
           refine ok_draw (p' := nav [0] g4p37) (env' := E30) (H' := (mkH [⟨[.int .i64 x6_2.f0, .str x6_2.f1, .int .i64 x6_2.f2], 3, false⟩])) (hs := []) [(0, 0, 0), (1, 0, 0), (3, 0, 0), (7, 0, 0), (15, 0, 0), (31, 0, 0), (63, 0, 0), (127, 0, 0), (255, 0, 0), (511, 0, 0), (1023, 0, 0), (2047, 0, 0), (255, 0, 0), (4351, 0, 0), (16383, 0, 0), (32767, 0, 0), (65535, 0, 0), (131071, 0, 0), (262143, 0, 0), (524287, 0, 0), (1048575, 0, 0), (131071, 0, 0), (2228223, 0, 0), (8388607, 0, 0), (16777215, 0, 0), (33554431, 0, 0), (67108863, 0, 0), (134217727, 0, 0), (268435455, 0, 0), (536870911, 0, 0), (1073741823, 0, 0)] (by kernel_rfl) (by kernel_rfl) (by kernel_rfl) (opsD_run 3 (l' := (opsAt g4p37).toList.drop 3) (env' := E20) (H' := (mkH [⟨[.int .i64 x6_2.f0, .str x6_2.f1, .int .i64 x6_2.f2], 3, false⟩])) (hs := []) (by kernel_rfl) (opsD_env (env' := [(126, .bool false), (125, .bool false), (124, .int .i64 x8_3.2), (0, .str a0), (3, .vec (x1_1.1).length 3 ((x1_1.1).flatMap e29)), (6, .int .i64 z16.2), (7, .int .i64 z11.1), (9, .ptr 0 3 0), (10, .vec (x8_3.1).length 3 ((x8_3.1).flatMap e29)), (11, .int .i64 x8_3.2)]) (congrArg (fun z : Bool => ([(126, .bool z), (125, .bool z), (124, .int .i64 x8_3.2), (0, .str a0), (3, .vec (x1_1.1).length 3 ((x1_1.1).flatMap e29)), (6, .int .i64 z16.2), (7, .int .i64 z11.1), (9, .ptr 0 3 0), (10, .vec (x8_3.1).length 3 ((x8_3.1).flatMap e29)), (11, .int .i64 x8_3.2)] : Env)) hb14) (opsD_run 5 (l' := (opsAt g4p37).toList.drop 8) (env' := E22) (H' := (mkH [⟨[.int .i64 x6_2.f0, .str x6_2.f1, .int .i64 x6_2.f2], 3, false⟩])) (hs := []) (by kernel_rfl) (opsD_env (env' := [(131, .bool false), (130, .bool false), (129, .bool false), (128, .int .i64 (x8_3.1.length : Int)), (127, .vec (x8_3.1).length 3 ((x8_3.1).flatMap e29)), (126, .bool false), (125, .bool false), (124, .int .i64 x8_3.2), (0, .str a0), (3, .vec (x1_1.1).length 3 ((x1_1.1).flatMap e29)), (6, .int .i64 z16.2), (7, .int .i64 z11.1), (9, .ptr 0 3 0), (10, .vec (x8_3.1).length 3 ((x8_3.1).flatMap e29)), (11, .int .i64 x8_3.2)]) (congrArg (fun z : Bool => ([(131, .bool z), (130, .bool z), (129, .bool z), (128, .int .i64 (x8_3.1.length : Int)), (127, .vec (x8_3.1).length 3 ((x8_3.1).flatMap e29)), (126, .bool false), (125, .bool false), (124, .int .i64 x8_3.2), (0, .str a0), (3, .vec (x1_1.1).length 3 ((x1_1.1).flatMap e29)), (6, .int .i64 z16.2), (7, .int .i64 z11.1), (9, .ptr 0 3 0), (10, .vec (x8_3.1).length 3 ((x8_3.1).flatMap e29)), (11, .int .i64 x8_3.2)] : Env)) hb15) (opsD_run 1 (l' := (opsAt g4p37).toList.drop 9) (env' := E24) (H' := (mkH [⟨[.int .i64 x6_2.f0, .str x6_2.f1, .int .i64 x6_2.f2], 3, false⟩])) (hs := []) (by kernel_rfl) (opsD_chk (l' := (opsAt g4p37).toList.drop 10) (env' := ((133, .vptr [.int .i64 x9_9.f0, .str x9_9.f1, .int .i64 x9_9.f2]) :: E24)) (hs := []) (x := x9_9) (fun (x9_9 : S28) => (.vptr [.int .i64 x9_9.f0, .str x9_9.f1, .int .i64 x9_9.f2], (mkH [⟨[.int .i64 x6_2.f0, .str x6_2.f1, .int .i64 x6_2.f2], 3, false⟩]))) (vidxH (sz := 3) e29_len (by kernel_rfl)) hx9_9 (by kernel_rfl) (opsD_run 7 (l' := (opsAt g4p37).toList.drop 17) (env' := E25) (H' := (mkH [⟨[.int .i64 x6_2.f0, .str x6_2.f1, .int .i64 x6_2.f2], 3, false⟩])) (hs := []) (by kernel_rfl) (opsD_env (env' := [(140, .bool false), (139, .bool false), (138, .bool false), (137, .str x6_2.f1), (136, .ptr 0 3 1), (135, .str x9_9.f1), (134, .vptr [.str x9_9.f1, .int .i64 x9_9.f2]), (133, .vptr [.int .i64 x9_9.f0, .str x9_9.f1, .int .i64 x9_9.f2]), (132, .vec (x8_3.1).length 3 ((x8_3.1).flatMap e29)), (131, .bool false), (130, .bool false), (129, .bool false), (128, .int .i64 (x8_3.1.length : Int)), (127, .vec (x8_3.1).length 3 ((x8_3.1).flatMap e29)), (126, .bool false), (125, .bool false), (124, .int .i64 x8_3.2), (0, .str a0), (3, .vec (x1_1.1).length 3 ((x1_1.1).flatMap e29)), (6, .int .i64 z16.2), (7, .int .i64 z11.1), (9, .ptr 0 3 0), (10, .vec (x8_3.1).length 3 ((x8_3.1).flatMap e29)), (11, .int .i64 x8_3.2)]) (congrArg (fun z : Bool => ([(140, .bool z), (139, .bool z), (138, .bool z), (137, .str x6_2.f1), (136, .ptr 0 3 1), (135, .str x9_9.f1), (134, .vptr [.str x9_9.f1, .int .i64 x9_9.f2]), (133, .vptr [.int .i64 x9_9.f0, .str x9_9.f1, .int .i64 x9_9.f2]), (132, .vec (x8_3.1).length 3 ((x8_3.1).flatMap e29)), (131, .bool false), (130, .bool false), (129, .bool false), (128, .int .i64 (x8_3.1.length : Int)), (127, .vec (x8_3.1).length 3 ((x8_3.1).flatMap e29)), (126, .bool false), (125, .bool false), (124, .int .i64 x8_3.2), (0, .str a0), (3, .vec (x1_1.1).length 3 ((x1_1.1).flatMap e29)), (6, .int .i64 z16.2), (7, .int .i64 z11.1), (9, .ptr 0 3 0), (10, .vec (x8_3.1).length 3 ((x8_3.1).flatMap e29)), (11, .int .i64 x8_3.2)] : Env)) hb16) (opsD_run 1 (l' := (opsAt g4p37).toList.drop 18) (env' := E27) (H' := (mkH [⟨[.int .i64 x6_2.f0, .str x6_2.f1, .int .i64 x6_2.f2], 3, false⟩])) (hs := []) (by kernel_rfl) (opsD_chk (l' := (opsAt g4p37).toList.drop 19) (env' := ((142, .vptr [.int .i64 x9_18.f0, .str x9_18.f1, .int .i64 x9_18.f2]) :: E27)) (hs := []) (x := x9_18) (fun (x9_18 : S28) => (.vptr [.int .i64 x9_18.f0, .str x9_18.f1, .int .i64 x9_18.f2], (mkH [⟨[.int .i64 x6_2.f0, .str x6_2.f1, .int .i64 x6_2.f2], 3, false⟩]))) (vidxH (sz := 3) e29_len (by kernel_rfl)) hx9_18 (by kernel_rfl) (opsD_run 6 (l' := (opsAt g4p37).toList.drop 25) (env' := E28) (H' := (mkH [⟨[.int .i64 x6_2.f0, .str x6_2.f1, .int .i64 x6_2.f2], 3, false⟩])) (hs := []) (by kernel_rfl) (opsD_env (env' := [(148, .bool false), (147, .bool false), (146, .int .i64 x6_2.f0), (145, .ptr 0 3 0), (144, .int .i64 x9_18.f0), (143, .vptr [.int .i64 x9_18.f0, .str x9_18.f1, .int .i64 x9_18.f2]), (142, .vptr [.int .i64 x9_18.f0, .str x9_18.f1, .int .i64 x9_18.f2]), (141, .vec (x8_3.1).length 3 ((x8_3.1).flatMap e29)), (140, .bool false), (139, .bool false), (138, .bool false), (137, .str x6_2.f1), (136, .ptr 0 3 1), (135, .str x9_9.f1), (134, .vptr [.str x9_9.f1, .int .i64 x9_9.f2]), (133, .vptr [.int .i64 x9_9.f0, .str x9_9.f1, .int .i64 x9_9.f2]), (132, .vec (x8_3.1).length 3 ((x8_3.1).flatMap e29)), (131, .bool false), (130, .bool false), (129, .bool false), (128, .int .i64 (x8_3.1.length : Int)), (127, .vec (x8_3.1).length 3 ((x8_3.1).flatMap e29)), (126, .bool false), (125, .bool false), (124, .int .i64 x8_3.2), (0, .str a0), (3, .vec (x1_1.1).length 3 ((x1_1.1).flatMap e29)), (6, .int .i64 z16.2), (7, .int .i64 z11.1), (9, .ptr 0 3 0), (10, .vec (x8_3.1).length 3 ((x8_3.1).flatMap e29)), (11, .int .i64 x8_3.2)]) (congrArg (fun z : Bool => ([(148, .bool z), (147, .bool z), (146, .int .i64 x6_2.f0), (145, .ptr 0 3 0), (144, .int .i64 x9_18.f0), (143, .vptr [.int .i64 x9_18.f0, .str x9_18.f1, .int .i64 x9_18.f2]), (142, .vptr [.int .i64 x9_18.f0, .str x9_18.f1, .int .i64 x9_18.f2]), (141, .vec (x8_3.1).length 3 ((x8_3.1).flatMap e29)), (140, .bool false), (139, .bool false), (138, .bool false), (137, .str x6_2.f1), (136, .ptr 0 3 1), (135, .str x9_9.f1), (134, .vptr [.str x9_9.f1, .int .i64 x9_9.f2]), (133, .vptr [.int .i64 x9_9.f0, .str x9_9.f1, .int .i64 x9_9.f2]), (132, .vec (x8_3.1).length 3 ((x8_3.1).flatMap e29)), (131, .bool false), (130, .bool false), (129, .bool false), (128, .int .i64 (x8_3.1.length : Int)), (127, .vec (x8_3.1).length 3 ((x8_3.1).flatMap e29)), (126, .bool false), (125, .bool false), (124, .int .i64 x8_3.2), (0, .str a0), (3, .vec (x1_1.1).length 3 ((x1_1.1).flatMap e29)), (6, .int .i64 z16.2), (7, .int .i64 z11.1), (9, .ptr 0 3 0), (10, .vec (x8_3.1).length 3 ((x8_3.1).flatMap e29)), (11, .int .i64 x8_3.2)] : Env)) hb17) (opsD_run 6 (l' := (opsAt g4p37).toList.drop 31) (env' := E30) (H' := (mkH [⟨[.int .i64 x6_2.f0, .str x6_2.f1, .int .i64 x6_2.f2], 3, false⟩])) (hs := []) (by kernel_rfl) (.nil)))))))))))))) (by kernel_rfl) (by kernel_rfl) (by kernel_rfl) ?_
           refine ok_keep [0, 3, 6, 7, 9, 154] (env' := [(0, .str a0), (3, .vec (x1_1.1).length 3 ((x1_1.1).flatMap e29)), (6, .int .i64 z16.2), (7, .int .i64 z11.1), (9, .ptr 0 3 0), (154, .bool false)]) (by kernel_rfl) ?_
           exact hj17 (false, z16.2)
    ·refine ok_if (fun hb11 => ?_) (fun hb11 => ?_)
     ·let E31 : Env := [(94, .bool (eqL x6_2.f1 [])), (93, .bool (eqL x6_2.f1 [])), (92, .str x6_2.f1), (91, .ptr 0 3 1), (0, .str a0), (3, .vec (x1_1.1).length 3 ((x1_1.1).flatMap e29)), (6, .int .i64 z15), (7, .int .i64 z11.1), (9, .ptr 0 3 0)]
      let E32 : Env := [(116, .bool true), (115, .tuple []), (114, .tuple []), (113, .tuple []), (112, .tuple []), (111, .tuple []), (110, .tuple []), (109, .tuple []), (108, .tuple []), (107, .tuple []), (106, .tuple []), (105, .tuple []), (104, .bool true), (103, .bool true), (102, .tuple []), (101, .tuple []), (100, .tuple []), (99, .tuple []), (98, .tuple []), (97, .tuple []), (96, .tuple []), (95, .tuple []), (94, .bool true), (93, .bool true), (92, .str x6_2.f1), (91, .ptr 0 3 1), (0, .str a0), (3, .vec (x1_1.1).length 3 ((x1_1.1).flatMap e29)), (6, .int .i64 z15), (7, .int .i64 z11.1), (9, .ptr 0 3 0)]
      refine ok_draw (p' := nav [0] g4p33) (env' := E32) (H' := (mkH [⟨[.int .i64 x6_2.f0, .str x6_2.f1, .int .i64 x6_2.f2], 3, false⟩])) (hs := []) [(0, 0, 0), (1, 0, 0), (3, 0, 0), (7, 0, 0), (15, 0, 0), (31, 0, 0), (15, 0, 0), (127, 0, 0), (15, 0, 0), (271, 0, 0), (783, 0, 0), (2047, 0, 0), (4095, 0, 0), (8191, 0, 0), (16383, 0, 0), (16383, 0, 0), (16383, 0, 0), (16383, 0, 0), (147455, 0, 0), (409599, 0, 0), (999423, 0, 0), (2097151, 0, 0), (16383, 0, 0), (4210687, 0, 0), (16777215, 0, 0), (33554431, 0, 0)] (by kernel_rfl) (by kernel_rfl) (by kernel_rfl) (opsD_run 4 (l' := (opsAt g4p33).toList.drop 4) (env' := E31) (H' := (mkH [⟨[.int .i64 x6_2.f0, .str x6_2.f1, .int .i64 x6_2.f2], 3, false⟩])) (hs := []) (by kernel_rfl) (opsD_env (env' := [(94, .bool true), (93, .bool true), (92, .str x6_2.f1), (91, .ptr 0 3 1), (0, .str a0), (3, .vec (x1_1.1).length 3 ((x1_1.1).flatMap e29)), (6, .int .i64 z15), (7, .int .i64 z11.1), (9, .ptr 0 3 0)]) (congrArg (fun z : Bool => ([(94, .bool z), (93, .bool z), (92, .str x6_2.f1), (91, .ptr 0 3 1), (0, .str a0), (3, .vec (x1_1.1).length 3 ((x1_1.1).flatMap e29)), (6, .int .i64 z15), (7, .int .i64 z11.1), (9, .ptr 0 3 0)] : Env)) hb11) (opsD_run 22 (l' := (opsAt g4p33).toList.drop 26) (env' := E32) (H' := (mkH [⟨[.int .i64 x6_2.f0, .str x6_2.f1, .int .i64 x6_2.f2], 3, false⟩])) (hs := []) (by kernel_rfl) (.nil)))) (by kernel_rfl) (by kernel_rfl) (by kernel_rfl) ?_
      refine ok_keep [0, 3, 6, 7, 9, 116] (env' := [(0, .str a0), (3, .vec (x1_1.1).length 3 ((x1_1.1).flatMap e29)), (6, .int .i64 z15), (7, .int .i64 z11.1), (9, .ptr 0 3 0), (116, .bool true)]) (by kernel_rfl) ?_
      exact hj16 (true, z15)
     ·refine ok_if (fun hb12 => ?_) (fun hb12 => ?_)
      ·let E31 : Env := [(94, .bool (eqL x6_2.f1 [])), (93, .bool (eqL x6_2.f1 [])), (92, .str x6_2.f1), (91, .ptr 0 3 1), (0, .str a0), (3, .vec (x1_1.1).length 3 ((x1_1.1).flatMap e29)), (6, .int .i64 z15), (7, .int .i64 z11.1), (9, .ptr 0 3 0)]
       let E33 : Env := [(104, .bool (decide (fwrap .i64 ((a0.length : Int) - z11.1) < (x6_2.f1.length : Int)))), (103, .bool (decide (fwrap .i64 ((a0.length : Int) - z11.1) < (x6_2.f1.length : Int)))), (102, .bool (decide (fwrap .i64 ((a0.length : Int) - z11.1) < (x6_2.f1.length : Int)))), (101, .int .i64 (x6_2.f1.length : Int)), (100, .str x6_2.f1), (99, .ptr 0 3 1), (98, .int .i64 (fwrap .i64 ((a0.length : Int) - z11.1))), (97, .int .i64 z11.1), (96, .int .i64 (a0.length : Int)), (95, .str a0), (94, .bool false), (93, .bool false), (92, .str x6_2.f1), (91, .ptr 0 3 1), (0, .str a0), (3, .vec (x1_1.1).length 3 ((x1_1.1).flatMap e29)), (6, .int .i64 z15), (7, .int .i64 z11.1), (9, .ptr 0 3 0)]
       let E34 : Env := [(116, .bool true), (115, .tuple []), (114, .tuple []), (113, .tuple []), (112, .tuple []), (111, .tuple []), (110, .tuple []), (109, .tuple []), (108, .tuple []), (107, .tuple []), (106, .tuple []), (105, .tuple []), (104, .bool true), (103, .bool true), (102, .bool true), (101, .int .i64 (x6_2.f1.length : Int)), (100, .str x6_2.f1), (99, .ptr 0 3 1), (98, .int .i64 (fwrap .i64 ((a0.length : Int) - z11.1))), (97, .int .i64 z11.1), (96, .int .i64 (a0.length : Int)), (95, .str a0), (94, .bool false), (93, .bool false), (92, .str x6_2.f1), (91, .ptr 0 3 1), (0, .str a0), (3, .vec (x1_1.1).length 3 ((x1_1.1).flatMap e29)), (6, .int .i64 z15), (7, .int .i64 z11.1), (9, .ptr 0 3 0)]
       refine ok_draw (p' := nav [0] g4p33) (env' := E34) (H' := (mkH [⟨[.int .i64 x6_2.f0, .str x6_2.f1, .int .i64 x6_2.f2], 3, false⟩])) (hs := []) [(0, 0, 0), (1, 0, 0), (3, 0, 0), (7, 0, 0), (15, 0, 0), (31, 0, 0), (15, 0, 0), (127, 0, 0), (15, 0, 0), (271, 0, 0), (783, 0, 0), (2047, 0, 0), (4095, 0, 0), (8191, 0, 0), (16383, 0, 0), (16383, 0, 0), (16383, 0, 0), (16383, 0, 0), (147455, 0, 0), (409599, 0, 0), (999423, 0, 0), (2097151, 0, 0), (16383, 0, 0), (4210687, 0, 0), (16777215, 0, 0), (33554431, 0, 0)] (by kernel_rfl) (by kernel_rfl) (by kernel_rfl) (opsD_run 4 (l' := (opsAt g4p33).toList.drop 4) (env' := E31) (H' := (mkH [⟨[.int .i64 x6_2.f0, .str x6_2.f1, .int .i64 x6_2.f2], 3, false⟩])) (hs := []) (by kernel_rfl) (opsD_env (env' := [(94, .bool false), (93, .bool false), (92, .str x6_2.f1), (91, .ptr 0 3 1), (0, .str a0), (3, .vec (x1_1.1).length 3 ((x1_1.1).flatMap e29)), (6, .int .i64 z15), (7, .int .i64 z11.1), (9, .ptr 0 3 0)]) (congrArg (fun z : Bool => ([(94, .bool z), (93, .bool z), (92, .str x6_2.f1), (91, .ptr 0 3 1), (0, .str a0), (3, .vec (x1_1.1).length 3 ((x1_1.1).flatMap e29)), (6, .int .i64 z15), (7, .int .i64 z11.1), (9, .ptr 0 3 0)] : Env)) hb11) (opsD_run 10 (l' := (opsAt g4p33).toList.drop 14) (env' := E33) (H' := (mkH [⟨[.int .i64 x6_2.f0, .str x6_2.f1, .int .i64 x6_2.f2], 3, false⟩])) (hs := []) (by kernel_rfl) (opsD_env (env' := [(104, .bool true), (103, .bool true), (102, .bool true), (101, .int .i64 (x6_2.f1.length : Int)), (100, .str x6_2.f1), (99, .ptr 0 3 1), (98, .int .i64 (fwrap .i64 ((a0.length : Int) - z11.1))), (97, .int .i64 z11.1), (96, .int .i64 (a0.length : Int)), (95, .str a0), (94, .bool false), (93, .bool false), (92, .str x6_2.f1), (91, .ptr 0 3 1), (0, .str a0), (3, .vec (x1_1.1).length 3 ((x1_1.1).flatMap e29)), (6, .int .i64 z15), (7, .int .i64 z11.1), (9, .ptr 0 3 0)]) (congrArg (fun z : Bool => ([(104, .bool z), (103, .bool z), (102, .bool z), (101, .int .i64 (x6_2.f1.length : Int)), (100, .str x6_2.f1), (99, .ptr 0 3 1), (98, .int .i64 (fwrap .i64 ((a0.length : Int) - z11.1))), (97, .int .i64 z11.1), (96, .int .i64 (a0.length : Int)), (95, .str a0), (94, .bool false), (93, .bool false), (92, .str x6_2.f1), (91, .ptr 0 3 1), (0, .str a0), (3, .vec (x1_1.1).length 3 ((x1_1.1).flatMap e29)), (6, .int .i64 z15), (7, .int .i64 z11.1), (9, .ptr 0 3 0)] : Env)) hb12) (opsD_run 12 (l' := (opsAt g4p33).toList.drop 26) (env' := E34) (H' := (mkH [⟨[.int .i64 x6_2.f0, .str x6_2.f1, .int .i64 x6_2.f2], 3, false⟩])) (hs := []) (by kernel_rfl) (.nil)))))) (by kernel_rfl) (by kernel_rfl) (by kernel_rfl) ?_
       refine ok_keep [0, 3, 6, 7, 9, 116] (env' := [(0, .str a0), (3, .vec (x1_1.1).length 3 ((x1_1.1).flatMap e29)), (6, .int .i64 z15), (7, .int .i64 z11.1), (9, .ptr 0 3 0), (116, .bool true)]) (by kernel_rfl) ?_
       exact hj16 (true, z15)
      ·refine ok_bind (fun x7_21 hx7_21 => ?_)
       let E31 : Env := [(94, .bool (eqL x6_2.f1 [])), (93, .bool (eqL x6_2.f1 [])), (92, .str x6_2.f1), (91, .ptr 0 3 1), (0, .str a0), (3, .vec (x1_1.1).length 3 ((x1_1.1).flatMap e29)), (6, .int .i64 z15), (7, .int .i64 z11.1), (9, .ptr 0 3 0)]
       let E33 : Env := [(104, .bool (decide (fwrap .i64 ((a0.length : Int) - z11.1) < (x6_2.f1.length : Int)))), (103, .bool (decide (fwrap .i64 ((a0.length : Int) - z11.1) < (x6_2.f1.length : Int)))), (102, .bool (decide (fwrap .i64 ((a0.length : Int) - z11.1) < (x6_2.f1.length : Int)))), (101, .int .i64 (x6_2.f1.length : Int)), (100, .str x6_2.f1), (99, .ptr 0 3 1), (98, .int .i64 (fwrap .i64 ((a0.length : Int) - z11.1))), (97, .int .i64 z11.1), (96, .int .i64 (a0.length : Int)), (95, .str a0), (94, .bool false), (93, .bool false), (92, .str x6_2.f1), (91, .ptr 0 3 1), (0, .str a0), (3, .vec (x1_1.1).length 3 ((x1_1.1).flatMap e29)), (6, .int .i64 z15), (7, .int .i64 z11.1), (9, .ptr 0 3 0)]
       let E35 : Env := [(111, .int .i64 (fwrap .i64 (z11.1 + (x6_2.f1.length : Int)))), (110, .int .i64 (x6_2.f1.length : Int)), (109, .str x6_2.f1), (108, .ptr 0 3 1), (107, .int .i64 z11.1), (106, .int .i64 z11.1), (105, .str a0), (104, .bool false), (103, .bool false), (102, .bool false), (101, .int .i64 (x6_2.f1.length : Int)), (100, .str x6_2.f1), (99, .ptr 0 3 1), (98, .int .i64 (fwrap .i64 ((a0.length : Int) - z11.1))), (97, .int .i64 z11.1), (96, .int .i64 (a0.length : Int)), (95, .str a0), (94, .bool false), (93, .bool false), (92, .str x6_2.f1), (91, .ptr 0 3 1), (0, .str a0), (3, .vec (x1_1.1).length 3 ((x1_1.1).flatMap e29)), (6, .int .i64 z15), (7, .int .i64 z11.1), (9, .ptr 0 3 0)]
       let E36 : Env := ((116, .bool (!(eqL x7_21 x6_2.f1))) :: (115, .bool (!(eqL x7_21 x6_2.f1))) :: (114, .str x6_2.f1) :: (113, .ptr 0 3 1) :: (112, .str x7_21) :: E35)
       refine ok_draw (p' := nav [0] g4p33) (env' := E36) (H' := (mkH [⟨[.int .i64 x6_2.f0, .str x6_2.f1, .int .i64 x6_2.f2], 3, false⟩])) (hs := []) [(0, 0, 0), (1, 0, 0), (3, 0, 0), (7, 0, 0), (15, 0, 0), (31, 0, 0), (15, 0, 0), (127, 0, 0), (15, 0, 0), (271, 0, 0), (783, 0, 0), (2047, 0, 0), (4095, 0, 0), (8191, 0, 0), (16383, 0, 0), (16383, 0, 0), (16383, 0, 0), (16383, 0, 0), (147455, 0, 0), (409599, 0, 0), (999423, 0, 0), (2097151, 0, 0), (16383, 0, 0), (4210687, 0, 0), (16777215, 0, 0), (33554431, 0, 0)] (by kernel_rfl) (by kernel_rfl) (by kernel_rfl) (opsD_run 4 (l' := (opsAt g4p33).toList.drop 4) (env' := E31) (H' := (mkH [⟨[.int .i64 x6_2.f0, .str x6_2.f1, .int .i64 x6_2.f2], 3, false⟩])) (hs := []) (by kernel_rfl) (opsD_env (env' := [(94, .bool false), (93, .bool false), (92, .str x6_2.f1), (91, .ptr 0 3 1), (0, .str a0), (3, .vec (x1_1.1).length 3 ((x1_1.1).flatMap e29)), (6, .int .i64 z15), (7, .int .i64 z11.1), (9, .ptr 0 3 0)]) (congrArg (fun z : Bool => ([(94, .bool z), (93, .bool z), (92, .str x6_2.f1), (91, .ptr 0 3 1), (0, .str a0), (3, .vec (x1_1.1).length 3 ((x1_1.1).flatMap e29)), (6, .int .i64 z15), (7, .int .i64 z11.1), (9, .ptr 0 3 0)] : Env)) hb11) (opsD_run 10 (l' := (opsAt g4p33).toList.drop 14) (env' := E33) (H' := (mkH [⟨[.int .i64 x6_2.f0, .str x6_2.f1, .int .i64 x6_2.f2], 3, false⟩])) (hs := []) (by kernel_rfl) (opsD_env (env' := [(104, .bool false), (103, .bool false), (102, .bool false), (101, .int .i64 (x6_2.f1.length : Int)), (100, .str x6_2.f1), (99, .ptr 0 3 1), (98, .int .i64 (fwrap .i64 ((a0.length : Int) - z11.1))), (97, .int .i64 z11.1), (96, .int .i64 (a0.length : Int)), (95, .str a0), (94, .bool false), (93, .bool false), (92, .str x6_2.f1), (91, .ptr 0 3 1), (0, .str a0), (3, .vec (x1_1.1).length 3 ((x1_1.1).flatMap e29)), (6, .int .i64 z15), (7, .int .i64 z11.1), (9, .ptr 0 3 0)]) (congrArg (fun z : Bool => ([(104, .bool z), (103, .bool z), (102, .bool z), (101, .int .i64 (x6_2.f1.length : Int)), (100, .str x6_2.f1), (99, .ptr 0 3 1), (98, .int .i64 (fwrap .i64 ((a0.length : Int) - z11.1))), (97, .int .i64 z11.1), (96, .int .i64 (a0.length : Int)), (95, .str a0), (94, .bool false), (93, .bool false), (92, .str x6_2.f1), (91, .ptr 0 3 1), (0, .str a0), (3, .vec (x1_1.1).length 3 ((x1_1.1).flatMap e29)), (6, .int .i64 z15), (7, .int .i64 z11.1), (9, .ptr 0 3 0)] : Env)) hb12) (opsD_run 7 (l' := (opsAt g4p33).toList.drop 21) (env' := E35) (H' := (mkH [⟨[.int .i64 x6_2.f0, .str x6_2.f1, .int .i64 x6_2.f2], 3, false⟩])) (hs := []) (by kernel_rfl) (opsD_chk (l' := (opsAt g4p33).toList.drop 22) (env' := ((112, .str x7_21) :: E35)) (hs := []) (x := x7_21) (fun (x7_21 : (List Nat)) => (.str x7_21, (mkH [⟨[.int .i64 x6_2.f0, .str x6_2.f1, .int .i64 x6_2.f2], 3, false⟩]))) (subH (some z11.1) (some (fwrap .i64 (z11.1 + (x6_2.f1.length : Int)))) (by kernel_rfl)) hx7_21 (by kernel_rfl) (opsD_run 4 (l' := (opsAt g4p33).toList.drop 26) (env' := E36) (H' := (mkH [⟨[.int .i64 x6_2.f0, .str x6_2.f1, .int .i64 x6_2.f2], 3, false⟩])) (hs := []) (by kernel_rfl) (.nil)))))))) (by kernel_rfl) (by kernel_rfl) (by kernel_rfl) ?_
       refine ok_keep [0, 3, 6, 7, 9, 116] (env' := [(0, .str a0), (3, .vec (x1_1.1).length 3 ((x1_1.1).flatMap e29)), (6, .int .i64 z15), (7, .int .i64 z11.1), (9, .ptr 0 3 0), (116, .bool (!(eqL x7_21 x6_2.f1)))]) (by kernel_rfl) ?_
       exact hj16 (!(eqL x7_21 x6_2.f1), z15)
  ·refine ok_split 58 (b := decide (y13_0 < z11.1)) (by kernel_rfl) (fun hb => ?_) (fun hb => ?_)
   ·refine ok_run 8 (p' := (atN 2 (ctl1 g4p26))) (env' := ((62, .int .i64 y13_0) :: (61, .str a0) :: (58, .bool true) :: E11)) (H' := (mkH [])) (by kernel_rfl) ?_
    refine ok_chk (fun (x5_2 : Int) => (.int .u8 x5_2, (mkH []))) (atN 3 (ctl1 g4p26)) (fun x5_2 => ((63, .int .u8 x5_2) :: (62, .int .i64 y13_0) :: (61, .str a0) :: (58, .bool true) :: E11)) (idxH (by kernel_rfl)) (fun _ => by kernel_rfl) (fun x5_2 hx5_2 => ?_)
    let E37 : Env := ((65, .bool (!decide (x5_2 = 32))) :: (64, .bool (!decide (x5_2 = 32))) :: (63, .int .u8 x5_2) :: (62, .int .i64 y13_0) :: (61, .str a0) :: (58, .bool true) :: E11)
    refine ok_run 2 (p' := (atN 5 (ctl1 g4p26))) (env' := E37) (H' := (mkH [])) (by kernel_rfl) ?_
    refine ok_jn (f := fun (z14 : Bool × Int × Int) => if z14.1 then (some false) else ((g4_l13 k c10 c18 a0 x1_1 y10_0 y10_1 z11 n) (fwrap .i64 (z14.2.1 + 1)) z14.2.2)) g4p28 (fun (z14 : Bool × Int × Int) => [(0, .str a0), (3, .vec (x1_1.1).length 3 ((x1_1.1).flatMap e29)), (6, .int .i64 z14.2.2), (7, .int .i64 z11.1), (8, .int .i64 z14.2.1), (82, .bool z14.1)]) (fun (z14 : Bool × Int × Int) => (mkH [])) (fun z14 => ?_) (fun j14 hj14 => ?_)
    ·refine ok_split 82 (b := z14.1) (by kernel_rfl) (fun hb => ?_) (fun hb => ?_)
     ·let E38 : Env := [(2, .bool false), (82, .bool true), (0, .str a0), (3, .vec (x1_1.1).length 3 ((x1_1.1).flatMap e29)), (6, .int .i64 z14.2.2), (7, .int .i64 z11.1), (8, .int .i64 z14.2.1), (82, .bool z14.1)]
      refine ok_run 6 (p' := .fin) (env' := E38) (H' := (mkH [])) (by kernel_rfl) ?_
      exact ok_ret (r := false) (xs := [.bool false]) (v := .bool false) (by kernel_rfl) (by kernel_rfl) (by kernel_rfl) (.pures (by kernel_rfl)) (by kernel_rfl)
     ·let E39 : Env := [(8, .int .i64 (fwrap .i64 (z14.2.1 + 1))), (60, .int .i64 (fwrap .i64 (z14.2.1 + 1))), (59, .int .i64 z14.2.1), (82, .bool false), (0, .str a0), (3, .vec (x1_1.1).length 3 ((x1_1.1).flatMap e29)), (6, .int .i64 z14.2.2), (7, .int .i64 z11.1), (8, .int .i64 z14.2.1), (82, .bool z14.1)]
      refine ok_run 7 (p' := g4p23) (env' := E39) (H' := (mkH [])) (by kernel_rfl) ?_
      refine ok_keep [0, 3, 6, 7, 8] (env' := [(0, .str a0), (3, .vec (x1_1.1).length 3 ((x1_1.1).flatMap e29)), (6, .int .i64 z14.2.2), (7, .int .i64 z11.1), (8, .int .i64 (fwrap .i64 (z14.2.1 + 1)))]) (by kernel_rfl) ?_
      exact ih (fwrap .i64 (z14.2.1 + 1)) z14.2.2
    ·refine ok_split 65 (b := !decide (x5_2 = 32)) (by kernel_rfl) (fun hb => ?_) (fun hb => ?_)
     ·refine ok_run 2 (p' := (atN 7 (ctl1 g4p26))) (env' := ((67, .int .i64 y13_0) :: (66, .str a0) :: (65, .bool true) :: E37)) (H' := (mkH [])) (by kernel_rfl) ?_
      refine ok_chk (fun (x5_7 : Int) => (.int .u8 x5_7, (mkH []))) (atN 8 (ctl1 g4p26)) (fun x5_7 => ((68, .int .u8 x5_7) :: (67, .int .i64 y13_0) :: (66, .str a0) :: (65, .bool true) :: E37)) (idxH (by kernel_rfl)) (fun _ => by kernel_rfl) (fun x5_7 hx5_7 => ?_)
      let E40 : Env := ((71, .bool (!decide (x5_7 = 9))) :: (70, .bool (!decide (x5_7 = 9))) :: (69, .bool (!decide (x5_7 = 9))) :: (68, .int .u8 x5_7) :: (67, .int .i64 y13_0) :: (66, .str a0) :: (65, .bool true) :: E37)
      refine ok_run 3 (p' := (atN 11 (ctl1 g4p26))) (env' := E40) (H' := (mkH [])) (by kernel_rfl) ?_
      refine ok_split 71 (b := !decide (x5_7 = 9)) (by kernel_rfl) (fun hb => ?_) (fun hb => ?_)
      ·refine ok_run 2 (p' := (atN 13 (ctl1 g4p26))) (env' := ((73, .int .i64 y13_0) :: (72, .str a0) :: (71, .bool true) :: E40)) (H' := (mkH [])) (by kernel_rfl) ?_
       refine ok_chk (fun (x5_13 : Int) => (.int .u8 x5_13, (mkH []))) (atN 14 (ctl1 g4p26)) (fun x5_13 => ((74, .int .u8 x5_13) :: (73, .int .i64 y13_0) :: (72, .str a0) :: (71, .bool true) :: E40)) (idxH (by kernel_rfl)) (fun _ => by kernel_rfl) (fun x5_13 hx5_13 => ?_)
       let E41 : Env := ((77, .bool (!decide (x5_13 = 10))) :: (76, .bool (!decide (x5_13 = 10))) :: (75, .bool (!decide (x5_13 = 10))) :: (74, .int .u8 x5_13) :: (73, .int .i64 y13_0) :: (72, .str a0) :: (71, .bool true) :: E40)
       refine ok_run 3 (p' := (atN 17 (ctl1 g4p26))) (env' := E41) (H' := (mkH [])) (by kernel_rfl) ?_
       refine ok_split 77 (b := !decide (x5_13 = 10)) (by kernel_rfl) (fun hb => ?_) (fun hb => ?_)
       ·refine ok_run 2 (p' := (atN 19 (ctl1 g4p26))) (env' := ((79, .int .i64 y13_0) :: (78, .str a0) :: (77, .bool true) :: E41)) (H' := (mkH [])) (by kernel_rfl) ?_
        refine ok_chk (fun (x5_19 : Int) => (.int .u8 x5_19, (mkH []))) (atN 20 (ctl1 g4p26)) (fun x5_19 => ((80, .int .u8 x5_19) :: (79, .int .i64 y13_0) :: (78, .str a0) :: (77, .bool true) :: E41)) (idxH (by kernel_rfl)) (fun _ => by kernel_rfl) (fun x5_19 hx5_19 => ?_)
        let E42 : Env := ((82, .bool (!decide (x5_19 = 13))) :: (81, .bool (!decide (x5_19 = 13))) :: (80, .int .u8 x5_19) :: (79, .int .i64 y13_0) :: (78, .str a0) :: (77, .bool true) :: E41)
        refine ok_run 3 (p' := g4p28) (env' := E42) (H' := (mkH [])) (by kernel_rfl) ?_
        refine ok_keep [0, 3, 6, 7, 8, 82] (env' := [(0, .str a0), (3, .vec (x1_1.1).length 3 ((x1_1.1).flatMap e29)), (6, .int .i64 y13_1), (7, .int .i64 z11.1), (8, .int .i64 y13_0), (82, .bool (!decide (x5_19 = 13)))]) (by kernel_rfl) ?_
        exact hj14 (!decide (x5_19 = 13), y13_0, y13_1)
       ·let E43 : Env := ((82, .bool false) :: (81, .tuple []) :: (80, .tuple []) :: (79, .tuple []) :: (78, .tuple []) :: (77, .bool false) :: E41)
        refine ok_run 6 (p' := g4p28) (env' := E43) (H' := (mkH [])) (by kernel_rfl) ?_
        refine ok_keep [0, 3, 6, 7, 8, 82] (env' := [(0, .str a0), (3, .vec (x1_1.1).length 3 ((x1_1.1).flatMap e29)), (6, .int .i64 y13_1), (7, .int .i64 z11.1), (8, .int .i64 y13_0), (82, .bool false)]) (by kernel_rfl) ?_
        exact hj14 (false, y13_0, y13_1)
      ·let E44 : Env := ((82, .bool false) :: (81, .tuple []) :: (80, .tuple []) :: (79, .tuple []) :: (78, .tuple []) :: (77, .bool false) :: (76, .bool false) :: (75, .tuple []) :: (74, .tuple []) :: (73, .tuple []) :: (72, .tuple []) :: (71, .bool false) :: E40)
       refine ok_run 12 (p' := g4p28) (env' := E44) (H' := (mkH [])) (by kernel_rfl) ?_
       refine ok_keep [0, 3, 6, 7, 8, 82] (env' := [(0, .str a0), (3, .vec (x1_1.1).length 3 ((x1_1.1).flatMap e29)), (6, .int .i64 y13_1), (7, .int .i64 z11.1), (8, .int .i64 y13_0), (82, .bool false)]) (by kernel_rfl) ?_
       exact hj14 (false, y13_0, y13_1)
     ·let E45 : Env := ((82, .bool false) :: (81, .tuple []) :: (80, .tuple []) :: (79, .tuple []) :: (78, .tuple []) :: (77, .bool false) :: (76, .bool false) :: (75, .tuple []) :: (74, .tuple []) :: (73, .tuple []) :: (72, .tuple []) :: (71, .bool false) :: (70, .bool false) :: (69, .tuple []) :: (68, .tuple []) :: (67, .tuple []) :: (66, .tuple []) :: (65, .bool false) :: E37)
      refine ok_run 18 (p' := g4p28) (env' := E45) (H' := (mkH [])) (by kernel_rfl) ?_
      refine ok_keep [0, 3, 6, 7, 8, 82] (env' := [(0, .str a0), (3, .vec (x1_1.1).length 3 ((x1_1.1).flatMap e29)), (6, .int .i64 y13_1), (7, .int .i64 z11.1), (8, .int .i64 y13_0), (82, .bool false)]) (by kernel_rfl) ?_
      exact hj14 (false, y13_0, y13_1)
   ·refine ok_run 4 (p' := g4p27) (env' := ((58, .bool false) :: E11)) (H' := (mkH [])) (by kernel_rfl) ?_
    refine ok_keep [0, 3, 6, 7] (env' := [(0, .str a0), (3, .vec (x1_1.1).length 3 ((x1_1.1).flatMap e29)), (6, .int .i64 y13_1), (7, .int .i64 z11.1)]) (by kernel_rfl) ?_
    exact hj15 y13_1
def g4_l10 (k : Nat)  (a0 : (List Nat)) (x1_1 : ((List S28) × Int)) (n : Nat) : Int → Int → Option Bool :=
 Nat.rec (motive := fun _ => Int → Int → Option Bool) (fun _ _ => none) (fun _ ih => fun (y10_0 : Int) (y10_1 : Int) => jn (fun (z18 : Unit) => (g10 k).bind fun x4_0 => some x4_0) (fun j18 => if (decide (y10_1 ≤ (x1_1.1.length : Int))) then (jn (fun (z11 : Int × Int × Int) => jn (fun (z12 : Bool × Int × Int) => if z12.1 then (some false) else (g4_l13 k ih j18 a0 x1_1 y10_0 y10_1 z11 k z12.2.2 z12.2.1)) (fun j12 => if (decide (z11.1 < z11.2.2)) then (j12 (true, z11.2.1, z11.2.2)) else (j12 (decide ((a0.length : Int) < z11.1), z11.2.1, z11.2.2)))) (fun j11 => if (decide (y10_1 < (x1_1.1.length : Int))) then ((nthL x1_1.1 y10_1).bind fun x3_2 => j11 (x3_2.f2, y10_1, y10_0)) else (j11 ((a0.length : Int), y10_1, y10_0)))) else (j18 ()))) n
theorem g4_l10_s (k : Nat)  (a0 : (List Nat)) (x1_1 : ((List S28) × Int)) (n : Nat) (y10_0 : Int) (y10_1 : Int) : g4_l10 k a0 x1_1 (n + 1) y10_0 y10_1 = (jn (fun (z18 : Unit) => (g10 k).bind fun x4_0 => some x4_0) (fun j18 => if (decide (y10_1 ≤ (x1_1.1.length : Int))) then (jn (fun (z11 : Int × Int × Int) => jn (fun (z12 : Bool × Int × Int) => if z12.1 then (some false) else (g4_l13 k (g4_l10 k a0 x1_1 n) j18 a0 x1_1 y10_0 y10_1 z11 k z12.2.2 z12.2.1)) (fun j12 => if (decide (z11.1 < z11.2.2)) then (j12 (true, z11.2.1, z11.2.2)) else (j12 (decide ((a0.length : Int) < z11.1), z11.2.1, z11.2.2)))) (fun j11 => if (decide (y10_1 < (x1_1.1.length : Int))) then ((nthL x1_1.1 y10_1).bind fun x3_2 => j11 (x3_2.f2, y10_1, y10_0)) else (j11 ((a0.length : Int), y10_1, y10_0)))) else (j18 ()))) := rfl
theorem g4_l10_ok (k : Nat)  (a0 : (List Nat)) (x1_1 : ((List S28) × Int))  : ∀ (n : Nat) (y10_0 : Int) (y10_1 : Int), Ok X4 g4p11 [(0, .str a0), (3, .vec (x1_1.1).length 3 ((x1_1.1).flatMap e29)), (5, .int .i64 y10_0), (6, .int .i64 y10_1)] (mkH []) (g4_l10 k a0 x1_1 n y10_0 y10_1)
 | 0, _, _ => ok_none
 | n + 1, y10_0, y10_1 => by
  have ih := g4_l10_ok k a0 x1_1 n
  rw [g4_l10_s]
  refine ok_ent (p' := nav [0] g4p11) (by kernel_rfl) ?_
  let E6 : Env := [(32, .bool (decide (y10_1 ≤ (x1_1.1.length : Int)))), (31, .int .i64 (x1_1.1.length : Int)), (30, .vec (x1_1.1).length 3 ((x1_1.1).flatMap e29)), (29, .int .i64 y10_1), (0, .str a0), (3, .vec (x1_1.1).length 3 ((x1_1.1).flatMap e29)), (5, .int .i64 y10_0), (6, .int .i64 y10_1)]
  refine ok_run 8 (p' := g4p13) (env' := E6) (H' := (mkH [])) (by kernel_rfl) ?_
  refine ok_jn (f := fun (z18 : Unit) => (g10 k).bind fun x4_0 => some x4_0) g4p15 (fun (z18 : Unit) => []) (fun (z18 : Unit) => (mkH [])) (fun z18 => ?_) (fun j18 hj18 => ?_)
  ·refine ok_run 1 (p' := (atN 0 (ctl1 g4p15))) (env' := []) (H' := (mkH [])) (by kernel_rfl) ?_
   refine ok_call (fun (x4_0 : Bool) => .bool x4_0) (atN 1 (ctl1 g4p15)) (fun x4_0 => [(160, .bool x4_0)]) (fi := 10) (args := []) (by kernel_rfl) (by kernel_rfl) (fun _ => by kernel_rfl) (fun r h => g10_ok k  r h) (fun _ => by kernel_rfl) (fun x4_0 hx4_0 => ?_)
   refine ok_run 3 (p' := .fin) (env' := [(2, .bool x4_0), (160, .bool x4_0)]) (H' := (mkH [])) (by kernel_rfl) ?_
   exact ok_ret (r := x4_0) (xs := [.bool x4_0]) (v := .bool x4_0) (by kernel_rfl) (by kernel_rfl) (by kernel_rfl) (.pures (by kernel_rfl)) (by kernel_rfl)
  ·refine ok_split 32 (b := decide (y10_1 ≤ (x1_1.1.length : Int))) (by kernel_rfl) (fun hb => ?_) (fun hb => ?_)
   ·refine ok_run 12 (p' := g4p16) (env' := ((7, .int .i64 (a0.length : Int)) :: (36, .int .i64 (a0.length : Int)) :: (35, .str a0) :: (32, .bool true) :: E6)) (H' := (mkH [])) (by kernel_rfl) ?_
    refine ok_keep [0, 3, 5, 6, 7] (env' := [(0, .str a0), (3, .vec (x1_1.1).length 3 ((x1_1.1).flatMap e29)), (5, .int .i64 y10_0), (6, .int .i64 y10_1), (7, .int .i64 (a0.length : Int))]) (by kernel_rfl) ?_
    let E7 : Env := [(40, .bool (decide (y10_1 < (x1_1.1.length : Int)))), (39, .int .i64 (x1_1.1.length : Int)), (38, .vec (x1_1.1).length 3 ((x1_1.1).flatMap e29)), (37, .int .i64 y10_1), (0, .str a0), (3, .vec (x1_1.1).length 3 ((x1_1.1).flatMap e29)), (5, .int .i64 y10_0), (6, .int .i64 y10_1), (7, .int .i64 (a0.length : Int))]
    refine ok_run 6 (p' := g4p17) (env' := E7) (H' := (mkH [])) (by kernel_rfl) ?_
    refine ok_jn (f := fun (z11 : Int × Int × Int) => jn (fun (z12 : Bool × Int × Int) => if z12.1 then (some false) else (g4_l13 k (g4_l10 k a0 x1_1 n) j18 a0 x1_1 y10_0 y10_1 z11 k z12.2.2 z12.2.1)) (fun j12 => if (decide (z11.1 < z11.2.2)) then (j12 (true, z11.2.1, z11.2.2)) else (j12 (decide ((a0.length : Int) < z11.1), z11.2.1, z11.2.2)))) g4p19 (fun (z11 : Int × Int × Int) => [(0, .str a0), (3, .vec (x1_1.1).length 3 ((x1_1.1).flatMap e29)), (5, .int .i64 z11.2.2), (6, .int .i64 z11.2.1), (7, .int .i64 z11.1)]) (fun (z11 : Int × Int × Int) => (mkH [])) (fun z11 => ?_) (fun j11 hj11 => ?_)
    ·let E8 : Env := [(49, .bool (decide (z11.1 < z11.2.2))), (48, .bool (decide (z11.1 < z11.2.2))), (47, .int .i64 z11.2.2), (46, .int .i64 z11.1), (0, .str a0), (3, .vec (x1_1.1).length 3 ((x1_1.1).flatMap e29)), (5, .int .i64 z11.2.2), (6, .int .i64 z11.2.1), (7, .int .i64 z11.1)]
     refine ok_run 5 (p' := (atN 4 (ctl1 g4p19))) (env' := E8) (H' := (mkH [])) (by kernel_rfl) ?_
     refine ok_jn (f := fun (z12 : Bool × Int × Int) => if z12.1 then (some false) else (g4_l13 k (g4_l10 k a0 x1_1 n) j18 a0 x1_1 y10_0 y10_1 z11 k z12.2.2 z12.2.1)) g4p20 (fun (z12 : Bool × Int × Int) => [(0, .str a0), (3, .vec (x1_1.1).length 3 ((x1_1.1).flatMap e29)), (5, .int .i64 z12.2.2), (6, .int .i64 z12.2.1), (7, .int .i64 z11.1), (54, .bool z12.1)]) (fun (z12 : Bool × Int × Int) => (mkH [])) (fun z12 => ?_) (fun j12 hj12 => ?_)
     ·refine ok_split 54 (b := z12.1) (by kernel_rfl) (fun hb => ?_) (fun hb => ?_)
      ·let E9 : Env := [(2, .bool false), (54, .bool true), (0, .str a0), (3, .vec (x1_1.1).length 3 ((x1_1.1).flatMap e29)), (5, .int .i64 z12.2.2), (6, .int .i64 z12.2.1), (7, .int .i64 z11.1), (54, .bool z12.1)]
       refine ok_run 6 (p' := .fin) (env' := E9) (H' := (mkH [])) (by kernel_rfl) ?_
       exact ok_ret (r := false) (xs := [.bool false]) (v := .bool false) (by kernel_rfl) (by kernel_rfl) (by kernel_rfl) (.pures (by kernel_rfl)) (by kernel_rfl)
      ·let E10 : Env := [(8, .int .i64 z12.2.2), (55, .int .i64 z12.2.2), (54, .bool false), (0, .str a0), (3, .vec (x1_1.1).length 3 ((x1_1.1).flatMap e29)), (5, .int .i64 z12.2.2), (6, .int .i64 z12.2.1), (7, .int .i64 z11.1), (54, .bool z12.1)]
       refine ok_run 10 (p' := g4p23) (env' := E10) (H' := (mkH [])) (by kernel_rfl) ?_
       refine ok_keep [0, 3, 6, 7, 8] (env' := [(0, .str a0), (3, .vec (x1_1.1).length 3 ((x1_1.1).flatMap e29)), (6, .int .i64 z12.2.1), (7, .int .i64 z11.1), (8, .int .i64 z12.2.2)]) (by kernel_rfl) ?_
       exact (g4_l13_ok k (g4_l10 k a0 x1_1 n) j18 a0 x1_1 y10_0 y10_1 z11 ih hj18 k) z12.2.2 z12.2.1
     ·refine ok_split 49 (b := decide (z11.1 < z11.2.2)) (by kernel_rfl) (fun hb => ?_) (fun hb => ?_)
      ·let E46 : Env := ((54, .bool true) :: (53, .tuple []) :: (52, .tuple []) :: (51, .tuple []) :: (50, .tuple []) :: (49, .bool true) :: E8)
       refine ok_run 6 (p' := g4p20) (env' := E46) (H' := (mkH [])) (by kernel_rfl) ?_
       refine ok_keep [0, 3, 5, 6, 7, 54] (env' := [(0, .str a0), (3, .vec (x1_1.1).length 3 ((x1_1.1).flatMap e29)), (5, .int .i64 z11.2.2), (6, .int .i64 z11.2.1), (7, .int .i64 z11.1), (54, .bool true)]) (by kernel_rfl) ?_
       exact hj12 (true, z11.2.1, z11.2.2)
      ·let E47 : Env := ((54, .bool (decide ((a0.length : Int) < z11.1))) :: (53, .bool (decide ((a0.length : Int) < z11.1))) :: (52, .int .i64 (a0.length : Int)) :: (51, .str a0) :: (50, .int .i64 z11.1) :: (49, .bool false) :: E8)
       refine ok_run 6 (p' := g4p20) (env' := E47) (H' := (mkH [])) (by kernel_rfl) ?_
       refine ok_keep [0, 3, 5, 6, 7, 54] (env' := [(0, .str a0), (3, .vec (x1_1.1).length 3 ((x1_1.1).flatMap e29)), (5, .int .i64 z11.2.2), (6, .int .i64 z11.2.1), (7, .int .i64 z11.1), (54, .bool (decide ((a0.length : Int) < z11.1)))]) (by kernel_rfl) ?_
       exact hj12 (decide ((a0.length : Int) < z11.1), z11.2.1, z11.2.2)
    ·refine ok_split 40 (b := decide (y10_1 < (x1_1.1.length : Int))) (by kernel_rfl) (fun hb => ?_) (fun hb => ?_)
     ·refine ok_run 4 (p' := (atN 2 (ctl1 g4p18))) (env' := ((42, .int .i64 y10_1) :: (41, .vec (x1_1.1).length 3 ((x1_1.1).flatMap e29)) :: (40, .bool true) :: E7)) (H' := (mkH [])) (by kernel_rfl) ?_
      refine ok_chk (fun (x3_2 : S28) => (.vptr [.int .i64 x3_2.f0, .str x3_2.f1, .int .i64 x3_2.f2], (mkH []))) (atN 3 (ctl1 g4p18)) (fun x3_2 => ((43, .vptr [.int .i64 x3_2.f0, .str x3_2.f1, .int .i64 x3_2.f2]) :: (42, .int .i64 y10_1) :: (41, .vec (x1_1.1).length 3 ((x1_1.1).flatMap e29)) :: (40, .bool true) :: E7)) (vidxH (sz := 3) e29_len (by kernel_rfl)) (fun _ => by kernel_rfl) (fun x3_2 hx3_2 => ?_)
      let E48 : Env := ((7, .int .i64 x3_2.f2) :: (45, .int .i64 x3_2.f2) :: (44, .vptr [.int .i64 x3_2.f2]) :: (43, .vptr [.int .i64 x3_2.f0, .str x3_2.f1, .int .i64 x3_2.f2]) :: (42, .int .i64 y10_1) :: (41, .vec (x1_1.1).length 3 ((x1_1.1).flatMap e29)) :: (40, .bool true) :: E7)
      refine ok_run 6 (p' := g4p19) (env' := E48) (H' := (mkH [])) (by kernel_rfl) ?_
      refine ok_keep [0, 3, 5, 6, 7] (env' := [(0, .str a0), (3, .vec (x1_1.1).length 3 ((x1_1.1).flatMap e29)), (5, .int .i64 y10_0), (6, .int .i64 y10_1), (7, .int .i64 x3_2.f2)]) (by kernel_rfl) ?_
      exact hj11 (x3_2.f2, y10_1, y10_0)
     ·refine ok_run 4 (p' := g4p19) (env' := ((40, .bool false) :: E7)) (H' := (mkH [])) (by kernel_rfl) ?_
      refine ok_keep [0, 3, 5, 6, 7] (env' := [(0, .str a0), (3, .vec (x1_1.1).length 3 ((x1_1.1).flatMap e29)), (5, .int .i64 y10_0), (6, .int .i64 y10_1), (7, .int .i64 (a0.length : Int))]) (by kernel_rfl) ?_
      exact hj11 ((a0.length : Int), y10_1, y10_0)
   ·refine ok_run 3 (p' := g4p15) (env' := ((32, .bool false) :: E6)) (H' := (mkH [])) (by kernel_rfl) ?_
    refine ok_keep [] (env' := []) (by kernel_rfl) ?_
    exact hj18 ()
def g4 (k : Nat) (a0 : (List Nat)) : Option Bool :=
 if (decide (1000 < (a0.length : Int))) then ((g10 k).bind fun x0_0 => some x0_0) else ((g11 k a0).bind fun x1_1 => if (!decide (x1_1.2 = 0)) then ((g10 k).bind fun x2_0 => if x2_0 then (some (decide ((x1_1.1.length : Int) = 0))) else (some false)) else (g4_l10 k a0 x1_1 k 0 0))
theorem g4_ok (k : Nat) (a0 : (List Nat)) (r : Bool) (h : g4 k a0 = some r) : PureOk Try.prog 4 [.str a0] (.bool r) := by
 refine pure_of X4 (fun _ => rfl) Try.func4 (by decide +kernel) (by kernel_rfl) (t := g4 k a0) ?_ h
 unfold g4
 refine ok_env (env' := [(0, .str a0)]) (by kernel_rfl) ?_
 let E1 : Env := [(14, .bool (decide (1000 < (a0.length : Int)))), (13, .int .i64 (a0.length : Int)), (12, .str a0), (2, .bool false), (0, .str a0)]
 refine ok_run 11 (p' := g4p2) (env' := E1) (H' := (mkH [])) (by kernel_rfl) ?_
 refine ok_split 14 (b := decide (1000 < (a0.length : Int))) (by kernel_rfl) (fun hb => ?_) (fun hb => ?_)
 ·refine ok_run 3 (p' := (atN 0 (ctl1 g4p3))) (env' := ((14, .bool true) :: E1)) (H' := (mkH [])) (by kernel_rfl) ?_
  refine ok_call (fun (x0_0 : Bool) => .bool x0_0) (atN 1 (ctl1 g4p3)) (fun x0_0 => ((15, .bool x0_0) :: (14, .bool true) :: E1)) (fi := 10) (args := []) (by kernel_rfl) (by kernel_rfl) (fun _ => by kernel_rfl) (fun r h => g10_ok k  r h) (fun _ => by kernel_rfl) (fun x0_0 hx0_0 => ?_)
  refine ok_run 3 (p' := .fin) (env' := ((2, .bool x0_0) :: (15, .bool x0_0) :: (14, .bool true) :: E1)) (H' := (mkH [])) (by kernel_rfl) ?_
  exact ok_ret (r := x0_0) (xs := [.bool x0_0]) (v := .bool x0_0) (by kernel_rfl) (by kernel_rfl) (by kernel_rfl) (.pures (by kernel_rfl)) (by kernel_rfl)
 ·refine ok_run 5 (p' := (atN 1 (ctl1 g4p4))) (env' := ((17, .str a0) :: (14, .bool false) :: E1)) (H' := (mkH [])) (by kernel_rfl) ?_
  refine ok_call (fun (x1_1 : ((List S28) × Int)) => .tuple [.vec (x1_1.1).length 3 ((x1_1.1).flatMap e29), .int .i64 x1_1.2]) (atN 2 (ctl1 g4p4)) (fun x1_1 => ((18, .tuple [.vec (x1_1.1).length 3 ((x1_1.1).flatMap e29), .int .i64 x1_1.2]) :: (17, .str a0) :: (14, .bool false) :: E1)) (fi := 11) (args := [.str a0]) (by kernel_rfl) (by kernel_rfl) (fun _ => by kernel_rfl) (fun r h => g11_ok k a0 r h) (fun _ => by kernel_rfl) (fun x1_1 hx1_1 => ?_)
  let E2 : Env := ((4, .int .i64 x1_1.2) :: (3, .vec (x1_1.1).length 3 ((x1_1.1).flatMap e29)) :: (20, .int .i64 x1_1.2) :: (19, .vec (x1_1.1).length 3 ((x1_1.1).flatMap e29)) :: (16, .tuple [.vec (x1_1.1).length 3 ((x1_1.1).flatMap e29), .int .i64 x1_1.2]) :: (18, .tuple [.vec (x1_1.1).length 3 ((x1_1.1).flatMap e29), .int .i64 x1_1.2]) :: (17, .str a0) :: (14, .bool false) :: E1)
  refine ok_run 8 (p' := g4p6) (env' := E2) (H' := (mkH [])) (by kernel_rfl) ?_
  refine ok_keep [0, 3, 4] (env' := [(0, .str a0), (3, .vec (x1_1.1).length 3 ((x1_1.1).flatMap e29)), (4, .int .i64 x1_1.2)]) (by kernel_rfl) ?_
  let E3 : Env := [(22, .bool (!decide (x1_1.2 = 0))), (21, .int .i64 x1_1.2), (0, .str a0), (3, .vec (x1_1.1).length 3 ((x1_1.1).flatMap e29)), (4, .int .i64 x1_1.2)]
  refine ok_run 4 (p' := g4p7) (env' := E3) (H' := (mkH [])) (by kernel_rfl) ?_
  refine ok_split 22 (b := !decide (x1_1.2 = 0)) (by kernel_rfl) (fun hb => ?_) (fun hb => ?_)
  ·refine ok_run 3 (p' := (atN 0 (ctl1 g4p8))) (env' := ((22, .bool true) :: E3)) (H' := (mkH [])) (by kernel_rfl) ?_
   refine ok_call (fun (x2_0 : Bool) => .bool x2_0) (atN 1 (ctl1 g4p8)) (fun x2_0 => ((23, .bool x2_0) :: (22, .bool true) :: E3)) (fi := 10) (args := []) (by kernel_rfl) (by kernel_rfl) (fun _ => by kernel_rfl) (fun r h => g10_ok k  r h) (fun _ => by kernel_rfl) (fun x2_0 hx2_0 => ?_)
   refine ok_run 1 (p' := (atN 2 (ctl1 g4p8))) (env' := ((24, .bool x2_0) :: (23, .bool x2_0) :: (22, .bool true) :: E3)) (H' := (mkH [])) (by kernel_rfl) ?_
   refine ok_split 24 (b := x2_0) (by kernel_rfl) (fun hb => ?_) (fun hb => ?_)
   ·let E4 : Env := ((2, .bool (decide ((x1_1.1.length : Int) = 0))) :: (28, .bool (decide ((x1_1.1.length : Int) = 0))) :: (27, .bool (decide ((x1_1.1.length : Int) = 0))) :: (26, .int .i64 (x1_1.1.length : Int)) :: (25, .vec (x1_1.1).length 3 ((x1_1.1).flatMap e29)) :: (24, .bool true) :: (24, .bool x2_0) :: (23, .bool x2_0) :: (22, .bool true) :: E3)
    refine ok_run 7 (p' := .fin) (env' := E4) (H' := (mkH [])) (by kernel_rfl) ?_
    exact ok_ret (r := (decide ((x1_1.1.length : Int) = 0))) (xs := [.bool (decide ((x1_1.1.length : Int) = 0))]) (v := .bool (decide ((x1_1.1.length : Int) = 0))) (by kernel_rfl) (by kernel_rfl) (by kernel_rfl) (.pures (by kernel_rfl)) (by kernel_rfl)
   ·let E5 : Env := ((2, .bool false) :: (28, .bool false) :: (27, .tuple []) :: (26, .tuple []) :: (25, .tuple []) :: (24, .bool false) :: (24, .bool x2_0) :: (23, .bool x2_0) :: (22, .bool true) :: E3)
    refine ok_run 7 (p' := .fin) (env' := E5) (H' := (mkH [])) (by kernel_rfl) ?_
    exact ok_ret (r := false) (xs := [.bool false]) (v := .bool false) (by kernel_rfl) (by kernel_rfl) (by kernel_rfl) (.pures (by kernel_rfl)) (by kernel_rfl)
  ·refine ok_run 13 (p' := g4p11) (env' := ((6, .int .i64 0) :: (5, .int .i64 0) :: (22, .bool false) :: E3)) (H' := (mkH [])) (by kernel_rfl) ?_
   refine ok_keep [0, 3, 5, 6] (env' := [(0, .str a0), (3, .vec (x1_1.1).length 3 ((x1_1.1).flatMap e29)), (5, .int .i64 0), (6, .int .i64 0)]) (by kernel_rfl) ?_
   exact (g4_l10_ok k a0 x1_1 k) 0 0
end
end Go.Proofs.Ytokcjgjgojlhbaa.Am
set_option maxRecDepth 100000
set_option linter.unusedVariables false
set_option linter.unusedSimpArgs false
namespace Go.Proofs.Ytokcjgjgojlhbaa.Am
open Go
theorem alone_scan {s : List Nat} (hs : s.length ≤ 1000) {l : List (Nat × Nat × Nat)} (hl : Toks s 0 l) (hv : V s = true) {x : Nat × Nat × Nat} (hx : x ∈ l) :
 scanN ((s.drop x.2.1).take x.2.2 ++ [10]) = ([⟨((if (s.drop x.2.1).take x.2.2 = [46] then 10 else x.1 : Nat) : Int), (s.drop x.2.1).take x.2.2, 0⟩], 0) := by
 have hb := toks_bounds hl (Nat.zero_le _) x hx
 obtain ⟨h3, h4, c, r, hc, hbl⟩ := toks_head hl x hx
 obtain ⟨w, hw, hwl, hwo⟩ := tok_alone h3 h4 hc hbl
 have hvu := (toks_V hl hv x hx).1
 rw [hw] at hvu ⊢
 have hlen : (c :: w ++ [10]).length = x.2.2 + 1 := by simp only [List.length_append, List.length_cons, List.length_nil] at hwl ⊢; omega
 have ht : Toks (c :: w ++ [10]) 0 [(if c :: w = [46] then 10 else x.1, 0, x.2.2)] := by
  simp only [Toks, List.drop_zero]
  refine ⟨?_, by omega, ?_, h4, ?_⟩
  ·rw [skip_step (s := c :: w ++ [10]) rfl hbl]
  ·rw [one_line (by rintro rfl; cases hbl)]; exact hwo
  ·rw [Nat.zero_add, ← hwl, List.drop_left, hwl]
   simp only [skipN, show blkN 10 = true from rfl, if_true]
   omega
 rw [scan_some (by omega) (by rw [V_app _ hvu]; rfl) ht]
 simp only [List.map_cons, List.map_nil, mkTok, List.drop_zero]
 rw [← hwl, List.take_left]
 rfl
theorem gap_l (k : Nat) {s : List Nat} (hs : By s) (hls : s.length ≤ 1000) (c10 : Int → Int → Option Bool) (c18 : Unit → Option Bool) (x1 : List S28 × Int) (y0 y1 : Int) {e : Nat} (he : e ≤ s.length) (i0 a0 : Int) (R : Option Bool)
 (hR : ∀ f, g4_l13 k c10 c18 s x1 y0 y1 ((e : Int), i0, a0) (f + 1) (e : Int) i0 = R) : ∀ (f p : Nat), e < p + f → p ≤ e → (∀ j c r, p ≤ j → j < e → s.drop j = c :: r → blkN c = true) →
 g4_l13 k c10 c18 s x1 y0 y1 ((e : Int), i0, a0) f (p : Int) i0 = R
 | 0, p, h, h2, hb => by omega
 | f + 1, p, h, h2, hb => by
  rcases Nat.lt_or_ge p e with hp | hp
  ·rw [g4_l13_s]
   obtain ⟨c, r, hc, -, hm, -⟩ := dcons (s := s) (i := p) (by omega)
   have nc := nthX (x := (p : Int)) rfl hc
   have bc := hb p c r (Nat.le_refl _) hp hc
   have ih := gap_l k hs hls c10 c18 x1 y0 y1 he i0 a0 R hR f (p + 1) (by omega) (by omega) (fun j c r h1 h2 h3 => hb j c r (by omega) h2 h3)
   unfold blkN at bc
   simp only [Bool.or_eq_true, decide_eq_true_eq] at bc
   refine jC fun j => ?_
   refine iT (dT (show (p : Int) < (e : Int) by omega)) ?_
   refine bS (by (try simp (disch := omega) only [fwI]); exact nc) ?_
   refine (jS (v := (false, (p : Int), i0)) (fun j => ?_)).trans ?_
   ·by_cases h1 : c = 32
    ·subst h1; rfl
    refine iT (by rw [dF (by omega)]; rfl) ?_
    refine bS (by (try simp (disch := omega) only [fwI]); exact nc) ?_
    by_cases h2 : c = 9
    ·subst h2; rfl
    refine iT (by rw [dF (by omega)]; rfl) ?_
    refine bS (by (try simp (disch := omega) only [fwI]); exact nc) ?_
    by_cases h3 : c = 10
    ·subst h3; rfl
    refine iT (by rw [dF (by omega)]; rfl) ?_
    refine bS (by (try simp (disch := omega) only [fwI]); exact nc) ?_
    rw [dT (show (c : Int) = 13 by omega)]
    rfl
   ·refine iF rfl ?_
    show g4_l13 k c10 c18 s x1 y0 y1 ((e : Int), i0, a0) f (fwrap .i64 ((p : Int) + 1)) i0 = R
    rw [fw_s (by omega)]
    exact ih
  ·obtain rfl : p = e := by omega
   exact hR f
theorem whole_l (k : Nat) (hk : 1900 ≤ k) {s : List Nat} (hs : By s) (hls : s.length ≤ 1000) {L : List (Nat × Nat × Nat)} (hL : Toks s 0 L) (hv : V s = true) (er : Int) : ∀ (f i a : Nat), L.length < i + f → i ≤ L.length → Toks s a (L.drop i) → a ≤ s.length →
 g4_l10 (k + 60) s (L.map (mkTok s), er) f (a : Int) (i : Int) = some true
 | 0, i, a, h, h2, ht, ha => by omega
 | f + 1, i, a, h, h2, ht, ha => by
  have cl := toks_count hL (Nat.zero_le _)
  rw [g4_l10_s]
  have ll : ((L.map (mkTok s), er).1.length : Int) = (L.length : Int) := by simp
  rcases Nat.lt_or_ge i L.length with hi | hi
  ·obtain ⟨x, r, hx, hr, hxm, -⟩ := dconsL (s := L) (i := i) hi
   rw [hx] at ht
   have hal := alone_scan hls hL hv hxm
   have hbx := toks_bounds hL (Nat.zero_le _) x hxm
   simp only [Toks] at ht
   obtain ⟨g1, g2, g3, g4, g5⟩ := ht
   have ih := whole_l k hk hs hls hL hv er f (i + 1) (x.2.1 + x.2.2) (by omega) (by omega) (by rw [hr]; exact g5) (by omega)
   have tx : (mkTok s x).f1 = (s.drop x.2.1).take x.2.2 := rfl
   have tl : ((s.drop x.2.1).take x.2.2).length = x.2.2 := by rw [List.length_take, List.length_drop]; omega
   refine jC fun j18 => ?_
   refine iT (dT (by rw [ll]; omega)) ?_
   refine (jS (v := ((x.2.1 : Int), (i : Int), (a : Int))) (fun j => ?_)).trans ?_
   ·refine iT (dT (by rw [ll]; omega)) ?_
    refine bS (by (try simp (disch := omega) only [fwI]); exact nthL_map hx) ?_
    rfl
   ·refine (jS (v := (false, (i : Int), (a : Int))) (fun j => ?_)).trans ?_
    ·refine iF (dF (show ¬ (x.2.1 : Int) < (a : Int) by omega)) ?_
     show j (decide ((s.length : Int) < (x.2.1 : Int)), (i : Int), (a : Int)) = _
     rw [dF (by omega)]
    ·refine iF rfl ?_
     show g4_l13 (k + 60) _ _ s _ _ _ ((x.2.1 : Int), (i : Int), (a : Int)) (k + 60) (a : Int) (i : Int) = some true
     refine gap_l (k + 60) hs hls _ _ _ _ _ (e := x.2.1) (by omega) _ _ _ (fun f' => ?_) (k + 60) a (by omega) (by omega) (fun j c r h1 h2 h3 => ?_)
     ·rw [g4_l13_s]
      refine (jS (v := (i : Int)) (fun j => ?_)).trans ?_
      ·exact iF (dF (show ¬ (x.2.1 : Int) < (x.2.1 : Int) by omega)) rfl
      ·refine iF (dF (by rw [ll]; omega)) ?_
       refine bS (by (try simp (disch := omega) only [fwI]); exact nthL_map hx) ?_
       rw [tx]
       have tne : eqL ((s.drop x.2.1).take x.2.2) [] = false := by
        cases hq : (s.drop x.2.1).take x.2.2 with
        | nil => rw [hq] at tl; exact absurd tl.symm g4
        | cons _ _ => rfl
       refine (jS (v := (false, (i : Int))) (fun j => ?_)).trans ?_
       ·refine iF tne ?_
        show (if decide (fwrap .i64 ((s.length : Int) - (x.2.1 : Int)) < (((s.drop x.2.1).take x.2.2).length : Int)) then _ else (subL s (some (x.2.1 : Int)) (some (fwrap .i64 ((x.2.1 : Int) + (((s.drop x.2.1).take x.2.2).length : Int))))).bind _) = _
        rw [tl, fw_d (by omega) (by omega), fw_a (by omega) (by omega)]
        refine iF (dF (by omega)) ?_
        refine bS (by (try simp (disch := omega) only [fwI]); exact subMid (s := s) (i := x.2.1) (j := x.2.1 + x.2.2) rfl rfl (by omega) (by omega)) ?_
        rw [List.drop_take, Nat.add_sub_cancel_left, eqL_same]
        rfl
       ·refine iF rfl ?_
        have c1 : catS ((s.drop x.2.1).take x.2.2) [10] = some ((s.drop x.2.1).take x.2.2 ++ [10]) := by
         unfold catS; rw [if_pos (by rw [tl]; simp only [List.length_cons, List.length_nil]; omega)]
        refine bS (by (try simp (disch := omega) only [fwI]); exact c1) ?_
        have l1 : ((s.drop x.2.1).take x.2.2 ++ [10]).length = x.2.2 + 1 := by rw [List.length_append, tl]; rfl
        have b1 : By ((s.drop x.2.1).take x.2.2 ++ [10]) := By.app ((hs.drop _).take _) (fun b hb => by
         rw [List.mem_singleton.1 hb]; decide)
        refine bS (by (try simp (disch := omega) only [fwI]); exact scan_at (k := k + 60) (s := (s.drop x.2.1).take x.2.2 ++ [10]) (by omega) b1 (by unfold Sz; omega)) ?_
        rw [hal]
        refine (jS (v := (false, (i : Int))) (fun j => ?_)).trans ?_
        ·refine iF rfl ?_
         refine iF rfl ?_
         refine bS (a := (⟨((if (s.drop x.2.1).take x.2.2 = [46] then 10 else x.1 : Nat) : Int), (s.drop x.2.1).take x.2.2, 0⟩ : S28)) rfl ?_
         rw [eqL_same]
         refine iF rfl ?_
         refine bS (a := (⟨((if (s.drop x.2.1).take x.2.2 = [46] then 10 else x.1 : Nat) : Int), (s.drop x.2.1).take x.2.2, 0⟩ : S28)) rfl ?_
         by_cases hd : (s.drop x.2.1).take x.2.2 = [46]
         ·rw [if_pos hd, hd]
          cases decide ((((10 : Nat) : Int)) = (mkTok s x).f0) <;> rfl
         ·rw [if_neg hd]
          refine iF (by rw [dT (show ((x.1 : Nat) : Int) = (mkTok s x).f0 from rfl)]; rfl) rfl
        ·refine iF rfl ?_
         show g4_l10 (k + 60) s _ f (fwrap .i64 ((x.2.1 : Int) + (((s.drop x.2.1).take x.2.2).length : Int))) (fwrap .i64 ((i : Int) + 1)) = _
         rw [tl, fw_a (by omega) (by omega), fw_s (by omega)]
         exact ih
     ·obtain ⟨d, hd⟩ : ∃ d, j = a + d := ⟨j - a, by omega⟩
      subst hd
      rw [← List.drop_drop] at h3
      exact skip_blank h3 (by omega)
  ·obtain rfl : i = L.length := by omega
   rw [List.drop_length] at ht
   simp only [Toks] at ht
   have sl := skipN_le (s.drop a)
   rw [List.length_drop] at sl
   refine (jS (v := ()) (fun j18 => ?_)).trans ?_
   ·refine iT (dT (by rw [ll]; omega)) ?_
    refine (jS (v := ((s.length : Int), (L.length : Int), (a : Int))) (fun j => ?_)).trans ?_
    ·exact iF (dF (by rw [ll]; omega)) rfl
    ·refine (jS (v := (false, (L.length : Int), (a : Int))) (fun j => ?_)).trans ?_
     ·refine iF (dF (show ¬ (s.length : Int) < (a : Int) by omega)) ?_
      show j (decide ((s.length : Int) < (s.length : Int)), (L.length : Int), (a : Int)) = _
      rw [dF (by omega)]
     ·refine iF rfl ?_
      show g4_l13 (k + 60) _ _ s _ _ _ ((s.length : Int), (L.length : Int), (a : Int)) (k + 60) (a : Int) (L.length : Int) = j18 ()
      refine gap_l (k + 60) hs hls _ _ _ _ _ (e := s.length) (by omega) _ _ _ (fun f' => ?_) (k + 60) a (by omega) (by omega) (fun j c r h1 h2 h3 => ?_)
      ·rw [g4_l13_s]
       refine (jS (v := (L.length : Int)) (fun j => ?_)).trans ?_
       ·exact iF (dF (show ¬ (s.length : Int) < (s.length : Int) by omega)) rfl
       ·exact iT (dT (by rw [ll])) rfl
      ·obtain ⟨d, hd⟩ : ∃ d, j = a + d := ⟨j - a, by omega⟩
       subst hd
       rw [← List.drop_drop] at h3
       exact skip_blank h3 (by omega)
   ·refine bS (by (try simp (disch := omega) only [fwI]); exact told6 k) ?_
    rfl
theorem scanWhole_true (s : List Nat) (hs : ∀ c ∈ s, c < 256) (ls : s.length ≤ 140737488351232) : ∃ k, g4 k s = some true := by
 refine ⟨1940 + 60, ?_⟩
 unfold g4
 by_cases h6 : 1000 < s.length
 ·refine iT (dT (by omega)) ?_
  refine bS (by (try simp (disch := omega) only [fwI]); exact told6 1940) ?_
  rfl
 ·refine iF (dF (by omega)) ?_
  refine bS (by (try simp (disch := omega) only [fwI]); exact scan_at (k := 1940 + 60) (by omega) hs ls) ?_
  by_cases he : (scanN s).2 = 0
  ·obtain ⟨l, l1, l2, l3, l4⟩ := scan_ok he
   have cl := toks_count l1 (Nat.zero_le _)
   refine iF (by rw [dT he]; rfl) ?_
   rw [l2]
   exact whole_l 1940 (by omega) hs (by omega) l1 l3 0 (1940 + 60) 0 0 (by omega) (by omega) l1 (Nat.zero_le _)
  ·refine iT (by rw [dF he]; rfl) ?_
   refine bS (by (try simp (disch := omega) only [fwI]); exact told6 1940) ?_
   refine iT rfl ?_
   rw [scan_err he]
   rfl
end Go.Proofs.Ytokcjgjgojlhbaa.Am
set_option linter.unusedVariables false
set_option linter.unusedSimpArgs false
namespace Go.Proofs.Ytokcjgjgojlhbaa.Am
open Go
theorem scanWhole_walk (a0 : ByteArray) (W : World) (w0 : a0.size ≤ 140737488351232) : Calls Try.prog 4 #[.string a0] W fun e W' => e = .returned (.bool true) ∧ RowKit.Below W.heap.size W W' := by
 obtain ⟨k, h⟩ := scanWhole_true (a0.data.toList.map (·.toNat)) (bytes_lt a0) (by simpa using w0)
 exact law_walk (g4_ok k (a0.data.toList.map (·.toNat)) true h) (by simp only [VRs, VR]; exact ⟨_, _, rfl, ⟨a0, rfl, rfl⟩, rfl⟩) W
end Go.Proofs.Ytokcjgjgojlhbaa.Am
namespace Go.Proofs.Ytokcjgjgojlhbaa.scanWhole
open Go.ChangeShapes Go.WideShapes Go.ChangeAt Go.RowKit
open Go.ChangeMaps (open_string shut_string)
set_option linter.unusedVariables false
theorem own : ownKnob Try.prog.godebug = none := by kernel_rfl
set_option maxRecDepth 100000 in
theorem lifted (os : Os) (started : os.Started) (H : Type) (enc : TypeId × Value → H) :
 ReturnsInHanded {} Try.checked os 4 .any (Rows.scanWholeSpec.pre6 enc Try.prog Try.f4 Rows.scanWholeRow.domain false) (Rows.scanWholeSpec.post enc Try.prog Try.f4 false true false false) := by
 refine returnsInHanded_of_change_sized (C := Try.checked) own started (by kernel_rfl) Try.func4
  (ChangeSpec.witness6 (enc := enc) (C := Try.checked) false ⟨#[], #[.string ByteArray.empty], []⟩ 8 (by kernel_rfl) (by kernel_rfl) (by kernel_rfl) (by kernel_rfl)) ?_
 intro W base args ds gs before hval0 hW hcnd hsz0 _
 have hsz : (DataW.weightsEach Try.prog (Try.f4.params.toList ++ Rows.scanWholeSpec.plain.varTypes Try.prog) (ds ++ gs)).all (· ≤ reachBytes) = true := hsz0
 have hval : ∀ (j : Nat) t v, Try.f4.params[j]? = some t → args[j]? = some v → Value.okWide Try.prog W .any base t v := hval0
 have hW' := hW
 obtain ⟨p, q, hA0, hV, rfl, hfz, hnd⟩ := hW
 have hA : DataW.TrodAll enc Try.prog W 0 (fun _ => true) true Try.f4.params.toList args.toList ds p := hA0
 rw [Try.params4] at hA hval hsz
 obtain ⟨v0, vs0, d0, ds0, p0, q0, hargs, rfl, rfl, h0, r0⟩ := trodAll_cons hA
 obtain ⟨rfl, rfl, rfl⟩ := trodAll_nil r0
 obtain rfl : args = #[v0] := by cases args; simp_all
 obtain ⟨rfl, rfl⟩ := trodVars_none hV
 obtain ⟨a0, rfl, rfl, rfl, y0⟩ := open_string Try.underlying9 (hval 0 9 v0 rfl rfl) h0
 have w0 : a0.size ≤ 140737488351232 := by
  have z := sized_string hsz (j := 0) (t := 9) rfl rfl
  rw [Array.length_toList] at z
  exact z
 clear hA0 hval0 hsz0 hsz
 refine (Am.scanWhole_walk a0 W w0).mono fun e W' ⟨he, bel⟩ => ?_
 subst he
 exact ⟨_, rfl, _, _, _, [], _, [], hW', trodAll_mk1 (shut_bool Try.underlying4 _), (trodAll_cons_mk (shut_string Try.underlying9 y0) trodAll_mk0), rfl, bel.frame _, fun h => by cases h⟩
theorem over : Rows.scanWholeRow.holds Try.pinned (OpenSpec.ofChange Rows.scanWholeSpec) :=
 OpenClaim.holds_of_wide 4 Try.f4 rfl rfl rfl rfl rfl rfl rfl ⟨rfl, rfl, rfl, rfl, rfl⟩ rfl rfl rfl rfl rfl (by kernel_rfl) Try.func4 (by kernel_rfl)
  (of_decide_eq_true (by kernel_rfl)) (by unfold Func.isWrapper; first | (rw [if_pos (by decide +kernel)]; kernel_rfl) | (rw [if_neg (by decide +kernel)]; exact ⟨rfl, rfl⟩))
  (fun os started H enc _ => lifted os started H enc)
theorem proved : Rows.ScanWholeSaid := over
#print axioms proved
end Go.Proofs.Ytokcjgjgojlhbaa.scanWhole
namespace Go.Proofs.Ytokcjgjgojlhbaa
theorem scanWhole_holds : Rows.ScanWholeSaid := scanWhole.proved
end Go.Proofs.Ytokcjgjgojlhbaa
