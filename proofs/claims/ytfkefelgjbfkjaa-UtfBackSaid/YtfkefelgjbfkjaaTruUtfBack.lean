/- UtfBack comes out true. -/
import Derived.Test.YtfkefelgjbfkjaaUtfF
import Derived.Test.YtfkefelgjbfkjaaG4
set_option maxRecDepth 100000
set_option linter.unusedVariables false
set_option linter.unusedSimpArgs false
namespace Go.Proofs.Ytfkefelgjbfkjaa.Am
open Go

theorem told1b (k : Nat) : g12 (k + 60) = some true := by kernel_rfl
theorem utf_enc {c : Nat} (h : cpN c = true) : utf (c : Int) = enc c := by
  have hle := cp_le h
  have hv : Utf8.valid (c : Int) = true := by
    unfold cpN at h
    unfold Utf8.valid
    simp at h ⊢
    omega
  have b : ∀ n : Nat, n < 256 → (UInt8.ofNat n).toNat = n := by intro n hn; rw [UInt8.toNat_ofNat']; omega
  unfold utf Utf8.encode enc
  simp only [hv, if_true, Int.toNat_natCast]
  by_cases h1 : c < 128
  · rw [if_pos (by omega), if_pos h1]
    simp [b c (by omega)]
  · rw [if_neg (by omega), if_neg h1]
    by_cases h2 : c < 2048
    · rw [if_pos (by omega), if_pos h2]
      simp only [List.map_cons, List.map_nil]
      rw [b _ (by omega), b _ (by omega)]
    · rw [if_neg (by omega), if_neg h2]
      by_cases h3 : c < 65536
      · rw [if_pos (by omega), if_pos h3]
        simp only [List.map_cons, List.map_nil]
        rw [b _ (by omega), b _ (by omega), b _ (by omega)]
      · rw [if_neg (by omega), if_neg h3]
        simp only [List.map_cons, List.map_nil]
        rw [b _ (by omega), b _ (by omega), b _ (by omega), b _ (by omega)]
theorem encs_app' (a b : List Nat) : encs (a ++ b) = encs a ++ encs b := by unfold encs; exact List.flatMap_append
theorem encs_len' (l : List Nat) : (encs l).length ≤ 4 * l.length := by
  induction l with
  | nil => exact Nat.le_refl _
  | cons c l ih =>
    have e : encs (c :: l) = enc c ++ encs l := rfl
    rw [e, List.length_append, List.length_cons]
    have := enc_len c
    omega
theorem encs_bytes' {l : List Nat} (h : ∀ c ∈ l, cpN c = true) : ∀ b ∈ encs l, b < 256 := by
  intro b hb
  obtain ⟨c, hc, hb⟩ := List.mem_flatMap.1 hb
  exact enc_bytes (h c hc) b hb
def ints (W : List Nat) : List Int := W.map fun (c : Nat) => (c : Int)
theorem fw32 {c : Nat} (h : c ≤ 1114111) : fwrap .i32 (c : Int) = (c : Int) := by
  have h1 : lo .i32 ≤ (c : Int) := by show (-2147483648 : Int) ≤ _; omega
  have h2 : (c : Int) ≤ hi .i32 := by show _ ≤ (2147483647 : Int); omega
  unfold fwrap
  rw [if_pos (by simp [h1, h2])]
theorem sub_mid {s : List Nat} {a b : Nat} (h1 : a ≤ b) (h2 : b ≤ s.length) : subL s (some (a : Int)) (some (b : Int)) = some ((s.take b).drop a) := by
  unfold subL bnd
  simp [h1, h2]
theorem small {n : Nat} (h : 1 ≤ n ∧ n ≤ 4) : decide ((n : Int) < 1) = false ∧ decide ((4 : Int) < (n : Int)) = false := ⟨decide_eq_false (by omega), decide_eq_false (by omega)⟩
theorem notless {a n : Nat} (h : n ≤ a) : decide ((a : Int) < (n : Int)) = false := decide_eq_false (by omega)
theorem fw_sub {a b : Nat} (h : b ≤ a) (h2 : a ≤ 1000000) : fwrap .i64 ((a : Int) - (b : Int)) = ((a - b : Nat) : Int) := by
  have : (a : Int) - (b : Int) = ((a - b : Nat) : Int) := by omega
  rw [this, fwn _ (by omega)]
theorem fw_ad {a b : Nat} (h : a + b ≤ 1000000) : fwrap .i64 ((a : Int) + (b : Int)) = ((a + b : Nat) : Int) := by
  have : (a : Int) + (b : Int) = ((a + b : Nat) : Int) := by omega
  rw [this, fwn _ (by omega)]
theorem back_l (k : Nat) (W : List Nat) (hW : ∀ c ∈ W, cpN c = true) (hl : W.length ≤ 60) : ∀ (d m i p : Nat), i + d = W.length → p = (encs (W.take i)).length → g4_l10 (k + 360) (d + 1 + m) (p : Int) (i : Int) (encs W) (ints W) = some true
  | 0, m, i, p, h, hp => by
    have hlen := encs_len' W
    have v := (valid_at (k := k + 360) (s := encs W) (by omega) (encs_bytes' hW) (by omega)).1
    have c := (count_at (k := k + 360) (s := encs W) (by omega) (encs_bytes' hW) (by omega)).1
    rw [(encs_vld W hW).1] at v
    rw [(encs_vld W hW).2] at c
    have told := told1b (k + 300)
    rw [show k + 300 + 60 = k + 360 from by omega] at told
    rw [List.take_of_length_le (by omega)] at hp
    have il : (ints W).length = W.length := List.length_map _
    rw [show 0 + 1 + m = m + 1 from by omega, g4_l10_s, il, decide_eq_false (show ¬ (i : Int) < (W.length : Int) by omega)]
    simp only [Bool.false_eq_true, if_false, told, if_true, Option.bind_some, v, c, hp, decide_true]
  | d + 1, m, i, p, h, hp => by
    have hlen := encs_len' W
    have hi : i < W.length := by omega
    have il : (ints W).length = W.length := List.length_map _
    have ih := back_l k W hW hl d m (i + 1) (p + (enc W[i]).length) (by omega) (by
      rw [List.take_add_one, List.getElem?_eq_getElem hi, encs_app', List.length_append, hp]
      show _ = _ + (enc W[i] ++ []).length
      rw [List.append_nil])
    have eW : encs W = encs (W.take i) ++ (enc W[i] ++ encs (W.drop (i + 1))) := by
      have e : W = W.take i ++ W[i] :: W.drop (i + 1) := by rw [← List.drop_eq_getElem_cons hi, List.take_append_drop]
      calc encs W = encs (W.take i ++ W[i] :: W.drop (i + 1)) := by rw [← e]
        _ = _ := by rw [encs_app']; rfl
    have hd : (encs W).drop p = enc W[i] ++ encs (W.drop (i + 1)) := by rw [eW, hp, List.drop_left]
    have cp := hW W[i] (List.getElem_mem hi)
    have el := enc_len W[i]
    have hpl : p + (enc W[i]).length ≤ (encs W).length := by rw [eW, List.length_append, List.length_append]; omega
    have n1 := next_at (k := k + 360) (by omega) (encs_bytes' hW) (by omega) p
    rw [hd, enc_dec cp] at n1
    have i1 : idxO (ints W) (i : Int) = some i := by
      unfold idxO; rw [if_pos (by omega), Int.toNat_natCast]
    have i2 : getO (ints W) i = some ((W[i] : Nat) : Int) := by
      unfold getO ints
      rw [List.getElem?_map, List.getElem?_eq_getElem hi]; rfl
    have q1 : p ≤ (encs W).length := Nat.le_trans (Nat.le_add_right _ _) hpl
    have q2 : (encs W).length ≤ 1000000 := Nat.le_trans hlen (Nat.le_trans (Nat.mul_le_mul_left 4 hl) (by decide))
    have q3 : (enc W[i]).length ≤ (encs W).length - p := Nat.le_sub_of_add_le' hpl
    have f1 := fw_sub q1 q2
    have f2 := fw_ad (Nat.le_trans hpl q2)
    have f3 : fwrap .i64 ((i : Int) + 1) = ((i + 1 : Nat) : Int) := by
      have : (i : Int) + 1 = ((i + 1 : Nat) : Int) := by omega
      rw [this, fwn _ (by omega)]
    have hle := cp_le cp
    have f4 := fw32 hle
    have s1 : subL (encs W) (some (p : Int)) (some ((p + (enc W[i]).length : Nat) : Int)) = some (enc W[i]) := by
      rw [sub_mid (Nat.le_add_right _ _) hpl, List.drop_take, Nat.add_sub_cancel_left, hd, List.take_left]
    have eqs : ∀ l : List Nat, eqL l l = true := fun l => (eqL_iff l l).2 rfl
    rw [show d + 1 + 1 + m = (d + 1 + m) + 1 from Nat.add_right_comm _ _ _, g4_l10_s, il, decide_eq_true (Int.ofNat_lt.2 hi)]
    simp only [if_true, n1, i1, i2, Option.bind_some, jn, decide_true, Bool.not_true, Bool.false_eq_true, if_false, (small el).1, (small el).2, f1, f2, f3, f4, notless q3, s1, utf_enc cp, eqs]
    exact ih
def cpB (x : Int) : Nat := ((fwrap .u64 x).tmod 1114112).toNat
theorem cpB_le (x : Int) : cpB x ≤ 1114111 ∧ fwrap .i64 ((fwrap .u64 x).tmod 1114112) = (cpB x : Int) := by
  obtain ⟨i, hi, h1, -⟩ := tmod_at x 1114112 (by decide) (by decide)
  have h1' : (fwrap .u64 x).tmod 1114112 = (i : Int) := h1
  unfold cpB
  rw [h1', fwn _ (by omega), Int.toNat_natCast]
  exact ⟨by omega, rfl⟩
def pts (l : List Int) : List Nat := (l.map cpB).filter cpN
theorem pts_cp (l : List Int) : ∀ c ∈ pts l, cpN c = true := fun c hc => (List.mem_filter.1 hc).2
theorem pts_len (l : List Int) : (pts l).length ≤ l.length := by
  unfold pts
  have := List.length_filter_le cpN (l.map cpB)
  rw [List.length_map] at this
  exact this
theorem back_o (k : Nat) (l : List Int) (hl : l.length ≤ 60) : ∀ (d m i : Nat), i + d = l.length → g4_l8 (k + 360) l (d + 1 + m) (encs (pts (l.take i))) (i : Int) (ints (pts (l.take i))) = some true
  | 0, m, i, h => by
    rw [show 0 + 1 + m = m + 1 from by omega, g4_l8_s, decide_eq_false (show ¬ (i : Int) < (l.length : Int) by omega)]
    have hp := pts_len (l.take i)
    rw [List.length_take] at hp
    have := back_l k (pts (l.take i)) (pts_cp _) (by omega) (pts (l.take i)).length (k + 360 - ((pts (l.take i)).length + 1)) 0 0 (by omega) rfl
    rw [show (pts (l.take i)).length + 1 + (k + 360 - ((pts (l.take i)).length + 1)) = k + 360 from by omega] at this
    simp only [Bool.false_eq_true, if_false]
    exact this
  | d + 1, m, i, h => by
    have hi : i < l.length := by omega
    have ih := back_o k l hl d m (i + 1) (by omega)
    obtain ⟨cle, ce⟩ := cpB_le l[i]
    have e1 : nthL l (i : Int) = some l[i] := by
      unfold nthL; rw [if_pos (by omega)]; simp [hi]
    have p := put_at (k := k + 360) (by omega) (cpB l[i] : Int)
    have f3 : fwrap .i64 ((i : Int) + 1) = ((i + 1 : Nat) : Int) := by
      have : (i : Int) + 1 = ((i + 1 : Nat) : Int) := by omega
      rw [this, fwn _ (by omega)]
    have et : l.take (i + 1) = l.take i ++ [l[i]] := by rw [List.take_add_one, List.getElem?_eq_getElem hi]; rfl
    have hp := pts_len (l.take i)
    rw [List.length_take] at hp
    have hq := encs_len' (pts (l.take i))
    rw [show d + 1 + 1 + m = (d + 1 + m) + 1 from by omega, g4_l8_s, decide_eq_true (show (i : Int) < (l.length : Int) by omega)]
    cases hc : cpN (cpB l[i]) with
    | true =>
      rw [put_cp hc] at p
      have el := enc_len (cpB l[i])
      have hne : eqL (enc (cpB l[i])) [] = false := by
        cases he : enc (cpB l[i]) with
        | nil => rw [he] at el; simp at el
        | cons _ _ => rfl
      have ep : pts (l.take (i + 1)) = pts (l.take i) ++ [cpB l[i]] := by
        rw [et]; unfold pts
        rw [List.map_append, List.filter_append]
        simp [hc]
      have c1 : catS (encs (pts (l.take i))) (enc (cpB l[i])) = some (encs (pts (l.take (i + 1)))) := by
        unfold catS
        rw [if_pos (by omega), ep, encs_app']
        show some (_ ++ _) = some (_ ++ (enc (cpB l[i]) ++ []))
        rw [List.append_nil]
      have il : (ints (pts (l.take i))).length = (pts (l.take i)).length := List.length_map _
      have c2 : appS 8 (ints (pts (l.take i))) [((cpB l[i] : Nat) : Int)] = some (ints (pts (l.take (i + 1)))) := by
        unfold appS
        rw [if_pos (by simp only [List.length_cons, List.length_nil]; omega), ep]
        unfold ints
        rw [List.map_append]; rfl
      have hcp : cpB l[i] < 55296 ∨ 57343 < cpB l[i] := by unfold cpN at hc; simp at hc; omega
      rcases Nat.lt_or_ge (cpB l[i]) 55296 with h1 | h1
      · simp only [if_true, e1, Option.bind_some, ce, p, hne, jn, decide_eq_true (show ((cpB l[i] : Nat) : Int) < 55296 by omega), Bool.not_false, beq_self_eq_true, Bool.not_true, Bool.false_eq_true, if_false, (small el).2, c1, c2, f3]
        exact ih
      · simp only [if_true, e1, Option.bind_some, ce, p, hne, jn, decide_eq_false (show ¬ ((cpB l[i] : Nat) : Int) < 55296 by omega), decide_eq_true (show (57343 : Int) < ((cpB l[i] : Nat) : Int) by omega), Bool.not_false, beq_self_eq_true, Bool.not_true, Bool.false_eq_true, if_false, (small el).2, c1, c2, f3]
        exact ih
    | false =>
      rw [put_no hc] at p
      have ep : pts (l.take (i + 1)) = pts (l.take i) := by
        rw [et]; unfold pts
        rw [List.map_append, List.filter_append]
        simp [hc]
      have hcp : 55296 ≤ cpB l[i] ∧ cpB l[i] ≤ 57343 := by unfold cpN at hc; simp at hc; omega
      rw [ep] at ih
      simp only [if_true, e1, Option.bind_some, ce, p, jn, decide_eq_false (show ¬ ((cpB l[i] : Nat) : Int) < 55296 by omega), decide_eq_false (show ¬ (57343 : Int) < ((cpB l[i] : Nat) : Int) by omega), show eqL [] [] = true from rfl, Bool.not_true, beq_self_eq_true, Bool.false_eq_true, if_false, f3, List.length_nil, show decide ((4 : Int) < ((0 : Nat) : Int)) = false from rfl]
      exact ih
theorem utfBack_true (l : List Int) (_ : ∀ n ∈ l, -9223372036854775808 ≤ n ∧ n ≤ 9223372036854775807) (_ : l.length ≤ 140737488351232) : ∃ k, g4 k l = some true := by
  refine ⟨0 + 360, ?_⟩
  unfold g4
  have told := told1b 300
  rw [show 300 + 60 = 0 + 360 from rfl] at told
  by_cases h1 : 60 < l.length
  · rw [decide_eq_true (show (60 : Int) < (l.length : Int) by omega)]
    simp only [if_true, told, Option.bind_some]
  · rw [decide_eq_false (show ¬ (60 : Int) < (l.length : Int) by omega)]
    have := back_o 0 l (by omega) l.length (0 + 360 - (l.length + 1)) 0 (by omega)
    rw [show l.length + 1 + (0 + 360 - (l.length + 1)) = 0 + 360 from by omega] at this
    simp only [Bool.false_eq_true, if_false]
    exact this
end Go.Proofs.Ytfkefelgjbfkjaa.Am
