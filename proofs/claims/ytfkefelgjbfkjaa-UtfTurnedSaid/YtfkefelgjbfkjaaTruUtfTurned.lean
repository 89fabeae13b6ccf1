/- UtfTurned comes out true. -/
import Derived.Test.YtfkefelgjbfkjaaUtfF
import Derived.Test.YtfkefelgjbfkjaaG7
set_option maxRecDepth 100000
set_option linter.unusedVariables false
set_option linter.unusedSimpArgs false
namespace Go.Proofs.Ytfkefelgjbfkjaa.Am
open Go

theorem told1t (k : Nat) : g12 (k + 60) = some true := by kernel_rfl
def cpT (x : Int) : Nat := 128 + ((fwrap .u64 x).tmod 53248).toNat
theorem cpT_le (x : Int) : 128 ≤ cpT x ∧ cpT x ≤ 53375 ∧ fwrap .i64 (128 + fwrap .i64 ((fwrap .u64 x).tmod 53248)) = (cpT x : Int) := by
  obtain ⟨i, hi, h1, -⟩ := tmod_at x 53248 (by decide) (by decide)
  have h1' : (fwrap .u64 x).tmod 53248 = (i : Int) := h1
  unfold cpT
  rw [h1', fwn _ (by omega), Int.toNat_natCast]
  refine ⟨by omega, by omega, ?_⟩
  have : (128 : Int) + (i : Int) = ((128 + i : Nat) : Int) := by omega
  rw [this, fwn _ (by omega)]
theorem cpT_cp (x : Int) : cpN (cpT x) = true := by
  obtain ⟨h1, h2, -⟩ := cpT_le x
  unfold cpN
  simp; omega
theorem cpsT (l : List Int) : ∀ c ∈ l.map cpT, cpN c = true := by
  intro c hc
  obtain ⟨x, _, rfl⟩ := List.mem_map.1 hc
  exact cpT_cp x
theorem encs_len (l : List Nat) : (encs l).length ≤ 4 * l.length := by
  induction l with
  | nil => exact Nat.le_refl _
  | cons c l ih =>
    have e : encs (c :: l) = enc c ++ encs l := rfl
    rw [e, List.length_append, List.length_cons]
    have := enc_len c
    omega
theorem encs_app (a b : List Nat) : encs (a ++ b) = encs a ++ encs b := by unfold encs; exact List.flatMap_append
theorem encs_bytes {l : List Nat} (h : ∀ c ∈ l, cpN c = true) : ∀ b ∈ encs l, b < 256 := by
  intro b hb
  obtain ⟨c, hc, hb⟩ := List.mem_flatMap.1 hb
  exact enc_bytes (h c hc) b hb
theorem turned_fin (k : Nat) (s : List Nat) (w : Int) (m : Nat) (a0 : List Int) (i : Int) (hi : ¬ i < (a0.length : Int)) (hs : ∀ b ∈ s, b < 256) (hl : s.length ≤ 120) (hne : s ≠ []) (hv : vld s.length s = true) (hd : vld s.dropLast.length s.dropLast = false) :
    g7_l7 (k + 260) a0 w (m + 1) s i = some true := by
  have hpos : 0 < s.length := List.length_pos_iff.2 hne
  obtain ⟨q, hq, hr, -⟩ := rem_at w s.length hpos (by omega)
  rw [g7_l7_s, decide_eq_false hi, decide_eq_false (show ¬ (s.length : Int) = 0 by omega)]
  have f1 : fwrap .i64 (q : Int) = q := fwn _ (by omega)
  have f2 : fwrap .i64 ((q : Int) + 1) = ((q + 1 : Nat) : Int) := by
    have : (q : Int) + 1 = ((q + 1 : Nat) : Int) := by omega
    rw [this, fwn _ (by omega)]
  have f3 : fwrap .i64 ((s.length : Int) - 1) = ((s.length - 1 : Nat) : Int) := by
    have : (s.length : Int) - 1 = ((s.length - 1 : Nat) : Int) := by omega
    rw [this, fwn _ (by omega)]
  have sub_to : ∀ n : Nat, n ≤ s.length → subL s none (some (n : Int)) = some (s.take n) := by
    intro n h; unfold subL bnd; simp [h]
  have sub_from : ∀ n : Nat, n ≤ s.length → subL s (some (n : Int)) none = some (s.drop n) := by
    intro n h; unfold subL bnd; simp [h]
  have c1 : catS (s.take q) [255] = some (s.take q ++ [255]) := by unfold catS; rw [if_pos (by simp; omega)]
  have c2 : catS (s.take q ++ [255]) (s.drop (q + 1)) = some (s.take q ++ [255] ++ s.drop (q + 1)) := by unfold catS; rw [if_pos (by simp; omega)]
  have tl : (s.take q ++ [255] ++ s.drop (q + 1)).length ≤ 120 := by simp; omega
  have tb : ∀ b ∈ s.take q ++ [255] ++ s.drop (q + 1), b < 256 := by
    intro b hb
    rcases List.mem_append.1 hb with h | h
    · rcases List.mem_append.1 h with h | h
      · exact hs b (List.mem_of_mem_take h)
      · simp at h; omega
    · exact hs b (List.mem_of_mem_drop h)
  have td : (s.take q ++ [255] ++ s.drop (q + 1)).drop q = 255 :: s.drop (q + 1) := by
    rw [List.append_assoc, List.drop_append, List.length_take, show q - min q s.length = 0 from by omega, List.drop_eq_nil_of_le (by simp; omega)]
    rfl
  have n1 := next_at (k := k + 260) (by omega) tb (by omega) q
  rw [td, dec_255] at n1
  have v1 := (valid_at (k := k + 260) (by omega) hs (by omega)).1
  have v2 := (valid_at (k := k + 260) (by omega) tb (by omega)).1
  have v2' : vld (s.take q ++ [255] ++ s.drop (q + 1)).length (s.take q ++ [255] ++ s.drop (q + 1)) = false := by
    cases h : vld (s.take q ++ [255] ++ s.drop (q + 1)).length (s.take q ++ [255] ++ s.drop (q + 1)) with
    | false => rfl
    | true =>
      have := vld_no255 _ _ q (Nat.le_refl _) h
      have e := List.getElem?_drop (xs := s.take q ++ [255] ++ s.drop (q + 1)) (i := q) (j := 0)
      rw [td] at e
      exact absurd (by simpa using e.symm) this
  have v3 := (valid_at (k := k + 260) (s := s.dropLast) (by simp; omega) (fun b hb => hs b ((List.dropLast_sublist s).subset hb)) (by simp; omega)).1
  rw [hv] at v1; rw [v2'] at v2; rw [hd] at v3
  have told := told1t (k + 200)
  rw [show k + 200 + 60 = k + 260 from by omega] at told
  have e4 : s.take (s.length - 1) = s.dropLast := List.dropLast_eq_take.symm
  simp only [Bool.false_eq_true, if_false, hr, Option.bind_some, f1, f2, f3, sub_to q (by omega), sub_from (q + 1) (by omega), sub_to (s.length - 1) (by omega), c1, c2, n1, told, v1, v2, if_true, Bool.not_false, decide_true, e4, v3]
theorem turned_l (k : Nat) (w : Int) (l : List Int) (h0 : l ≠ []) (hl : l.length ≤ 30) : ∀ (d m i : Nat), i + d = l.length → g7_l7 (k + 260) l w (d + 1 + m) (encs ((l.take i).map cpT)) (i : Int) = some true
  | 0, m, i, h => by
    rw [show 0 + 1 + m = m + 1 from by omega]
    have ht : l.take i = l := List.take_of_length_le (by omega)
    rw [ht]
    have e1 := encs_len (l.map cpT)
    rw [List.length_map] at e1
    obtain ⟨a, x, rfl⟩ : ∃ a x, l = a ++ [x] := ⟨l.dropLast, l.getLast h0, (List.dropLast_concat_getLast h0).symm⟩
    have e2 : encs ((a ++ [x]).map cpT) = encs (a.map cpT) ++ enc (cpT x) := by
      rw [List.map_append, encs_app]
      show _ ++ (enc (cpT x) ++ []) = _
      rw [List.append_nil]
    have el := enc_len (cpT x)
    have hne : enc (cpT x) ≠ [] := by intro w; rw [w] at el; simp at el
    refine turned_fin k _ w m _ _ (by omega) (encs_bytes (cpsT _)) (by omega) ?_ (encs_vld _ (cpsT _)).1 ?_
    · rw [e2]; simp [hne]
    · rw [e2, List.dropLast_append_of_ne_nil hne, (join_all (encs_vld _ (cpsT a)).1).1]
      exact enc_cut (cpT_cp x) (cpT_le x).1
  | d + 1, m, i, h => by
    rw [show d + 1 + 1 + m = (d + 1 + m) + 1 from by omega, g7_l7_s, decide_eq_true (show (i : Int) < (l.length : Int) by omega)]
    have hi : i < l.length := by omega
    have ih := turned_l k w l h0 hl d m (i + 1) (by omega)
    have e1 : nthL l (i : Int) = some l[i] := by
      unfold nthL; rw [if_pos (by omega)]; simp [hi]
    have e2 : l.take (i + 1) = l.take i ++ [l[i]] := by rw [List.take_add_one, List.getElem?_eq_getElem hi]; rfl
    have e3 : encs ((l.take (i + 1)).map cpT) = encs ((l.take i).map cpT) ++ enc (cpT l[i]) := by
      rw [e2, List.map_append, encs_app]
      show _ ++ (enc (cpT l[i]) ++ []) = _
      rw [List.append_nil]
    have e5 := encs_len ((l.take i).map cpT)
    rw [List.length_map, List.length_take] at e5
    have e6 := enc_len (cpT l[i])
    have e4 : catS (encs ((l.take i).map cpT)) (enc (cpT l[i])) = some (encs ((l.take (i + 1)).map cpT)) := by
      unfold catS; rw [if_pos (by omega), e3]
    have p := put_at (k := k + 260) (by omega) (cpT l[i] : Int)
    rw [put_cp (cpT_cp _)] at p
    have f1 : fwrap .i64 ((i : Int) + 1) = ((i + 1 : Nat) : Int) := by
      have : (i : Int) + 1 = ((i + 1 : Nat) : Int) := by omega
      rw [this, fwn _ (by omega)]
    simp only [if_true, e1, Option.bind_some, (cpT_le l[i]).2.2, p, e4, f1]
    exact ih
theorem utfTurned_true (l : List Int) (w : Int) (_ : ∀ n ∈ l, -9223372036854775808 ≤ n ∧ n ≤ 9223372036854775807) (_ : l.length ≤ 140737488351232) : ∃ k, g7 k l w = some true := by
  refine ⟨0 + 260, ?_⟩
  unfold g7
  have told := told1t 200
  rw [show 200 + 60 = 0 + 260 from rfl] at told
  by_cases h0 : l.length = 0
  · rw [decide_eq_true (show (l.length : Int) = 0 by omega)]
    simp only [jn, if_true, told, Option.bind_some]
  · rw [decide_eq_false (show ¬ (l.length : Int) = 0 by omega)]
    by_cases h1 : 30 < l.length
    · rw [decide_eq_true (show (30 : Int) < (l.length : Int) by omega)]
      simp only [jn, if_true, Bool.false_eq_true, if_false, told, Option.bind_some]
    · rw [decide_eq_false (show ¬ (30 : Int) < (l.length : Int) by omega)]
      have hne : l ≠ [] := by intro e; subst e; exact h0 rfl
      have := turned_l 0 w l hne (by omega) l.length (0 + 260 - (l.length + 1)) 0 (by omega)
      rw [show l.length + 1 + (0 + 260 - (l.length + 1)) = 0 + 260 from by omega] at this
      simp only [jn, Bool.false_eq_true, if_false]
      exact this
end Go.Proofs.Ytfkefelgjbfkjaa.Am
