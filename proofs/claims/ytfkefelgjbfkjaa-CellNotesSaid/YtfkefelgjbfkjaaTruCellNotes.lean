/- CellNotes comes out true. -/
import Derived.Test.YtfkefelgjbfkjaaCellB
import Derived.Test.YtfkefelgjbfkjaaG11
set_option maxRecDepth 100000
set_option linter.unusedVariables false
set_option linter.unusedSimpArgs false
namespace Go.Proofs.Ytfkefelgjbfkjaa.Am
open Go

/-- What a text is trimmed to: its end is no blank. -/
theorem tix_end {s : List Nat} : ∀ i, i ≤ s.length → ∀ q, tix s i = q + 1 → ∃ b, s[q]? = some b ∧ blankB b = false
  | 0, _, q, h => by cases h
  | i + 1, hi, q, h => by
    have hi' : i < s.length := by omega
    rw [tix_step hi'] at h
    split at h
    · exact tix_end i (by omega) q h
    · rename_i hb
      have : q = i := by omega
      subst this
      exact ⟨s[q], by simp [hi'], by simpa using hb⟩
/-- What is cut off are blanks. -/
theorem tix_off {s : List Nat} : ∀ i, i ≤ s.length → ∀ q, tix s i ≤ q → q < i → ∃ b, s[q]? = some b ∧ blankB b = true
  | 0, _, q, _, h => by omega
  | i + 1, hi, q, h1, h2 => by
    have hi' : i < s.length := by omega
    rw [tix_step hi'] at h1
    split at h1
    · rename_i hb
      by_cases e : q = i
      · subst e; exact ⟨s[q], by simp [hi'], hb⟩
      · exact tix_off i (by omega) q h1 (by omega)
    · omega
theorem trim_len (s : List Nat) : (trimN s).length = tix s s.length := by
  unfold trimN; rw [List.length_take]; have := tix_le s s.length; omega
theorem trim_pre (s : List Nat) : s.take (trimN s).length = trimN s := by rw [trim_len]; rfl
theorem tix_self {s : List Nat} (h : s = [] ∨ ∃ b, s[s.length - 1]? = some b ∧ blankB b = false) : tix s s.length = s.length := by
  rcases h with rfl | ⟨b, h1, h2⟩
  · rfl
  · cases hn : s.length with
    | zero => rfl
    | succ n => rw [hn] at h1; exact tix_stop h1 h2
theorem trim_end (s : List Nat) : trimN s = [] ∨ ∃ b, (trimN s)[(trimN s).length - 1]? = some b ∧ blankB b = false := by
  cases hq : tix s s.length with
  | zero => left; unfold trimN; rw [hq]; rfl
  | succ q =>
    right
    obtain ⟨b, h1, h2⟩ := tix_end s.length (Nat.le_refl _) q hq
    refine ⟨b, ?_, h2⟩
    rw [trim_len, hq]
    show (trimN s)[q]? = some b
    unfold trimN
    rw [hq, List.getElem?_take_of_lt (by omega)]
    exact h1
theorem trim_same {s : List Nat} (h : tix s s.length = s.length) : trimN s = s := by
  unfold trimN; rw [h]; exact List.take_length
theorem trim_trim (s : List Nat) : trimN (trimN s) = trimN s := trim_same (tix_self (trim_end s))
theorem trim_head (s : List Nat) : trimN (37 :: trimN s) = 37 :: trimN s := by
  refine trim_same (tix_self (Or.inr ?_))
  rcases trim_end s with h | ⟨b, h1, h2⟩
  · rw [h]; exact ⟨37, rfl, rfl⟩
  · have hne : (trimN s).length ≠ 0 := by
      intro e
      rw [List.eq_nil_of_length_eq_zero e] at h1
      cases h1
    refine ⟨b, ?_, h2⟩
    rw [List.length_cons, Nat.add_sub_cancel]
    obtain ⟨n, hn⟩ : ∃ n, (trimN s).length = n + 1 := ⟨(trimN s).length - 1, by omega⟩
    rw [hn] at h1 ⊢
    exact h1
theorem mem_iff_get {s : List Nat} {x : Nat} : s.contains x = true ↔ ∃ i : Nat, s[i]? = some x := by
  rw [List.contains_iff_mem, List.mem_iff_getElem?]
theorem trim_nl (s : List Nat) : (trimN s).contains 10 = s.contains 10 := by
  rw [Bool.eq_iff_iff, mem_iff_get, mem_iff_get]
  constructor
  · rintro ⟨i, hi⟩
    refine ⟨i, ?_⟩
    unfold trimN at hi
    by_cases h : i < tix s s.length
    · rw [List.getElem?_take_of_lt h] at hi; exact hi
    · rw [List.getElem?_take] at hi
      rw [if_neg h] at hi
      cases hi
  · rintro ⟨i, hi⟩
    refine ⟨i, ?_⟩
    have hlt : i < s.length := by
      rcases Nat.lt_or_ge i s.length with h | h
      · exact h
      · rw [List.getElem?_eq_none h] at hi; cases hi
    by_cases h : i < tix s s.length
    · unfold trimN
      rw [List.getElem?_take_of_lt h]; exact hi
    · obtain ⟨b, h1, h2⟩ := tix_off s.length (Nat.le_refl _) i (by omega) hlt
      rw [hi] at h1
      cases h1
      exact absurd h2 (by decide)
theorem take_nl {s : List Nat} {i : Nat} (hi : i < s.length) : (s.take (i + 1)).contains 10 = ((s.take i).contains 10 || decide (s[i] = 10)) := by
  rw [List.take_add_one, List.getElem?_eq_getElem hi, Bool.eq_iff_iff, List.contains_iff_mem, Option.toList_some, List.mem_append, Bool.or_eq_true, List.contains_iff_mem, decide_eq_true_eq, List.mem_singleton]
  exact ⟨fun h => h.imp id Eq.symm, fun h => h.imp id Eq.symm⟩
theorem notes_l (k : Nat) {s : List Nat} (hs : ∀ b ∈ s, b < 256) (hl : s.length ≤ 100) : ∀ (d m i : Nat) (y : Bool), i + d = s.length → y = !(s.take i).contains 10 → g11_l4 (k + 20060 + 200) s (trimN s) (d + 1 + m) y (i : Int) = some true
  | 0, m, i, y, h, hy => by
    rw [show 0 + 1 + m = m + 1 from by omega, g11_l4_s, decide_eq_false (show ¬ (i : Int) < (s.length : Int) by omega)]
    rw [List.take_of_length_le (by omega)] at hy
    have ht := tix_le s s.length
    have hlen := trim_len s
    have told := told12_at (k + 200)
    rw [show k + 200 + 20060 = k + 20060 + 200 from by omega] at told
    have eqs : ∀ l : List Nat, eqL l l = true := fun l => (eqL_iff l l).2 rfl
    have c1 : catS [37] (trimN s) = some (37 :: trimN s) := by unfold catS; rw [if_pos (by simp; omega)]; rfl
    have t1 := trim_at (k := k + 20060 + 200) (s := trimN s) (by omega) (by omega)
    have n1 := note_at (k := k + 20060 + 200) (s := 37 :: trimN s) (by simp; omega) (by simp; omega)
    have n2 := note_at (k := k + 20060 + 200) (s := s) (by omega) (by omega)
    have v1 : noteN (37 :: trimN s) = y := by
      unfold noteN h37
      rw [trim_head, eqs, List.contains_cons, trim_nl, hy]
      simp
    rw [trim_trim] at t1
    rw [v1] at n1
    simp only [Bool.false_eq_true, if_false, told, t1, c1, n1, n2, Option.bind_some, if_true, eqs, decide_eq_true (show ((trimN s).length : Int) ≤ (s.length : Int) by omega), sub_to (show (trimN s).length ≤ s.length by omega), trim_pre, beq_self_eq_true]
    cases hyb : y with
    | false =>
      have : s.contains 10 = true := by rw [hyb] at hy; simpa using hy.symm
      have : noteN s = false := by unfold noteN; rw [this]; rfl
      rw [this]; rfl
    | true =>
      have hc : s.contains 10 = false := by rw [hyb] at hy; simpa using hy.symm
      cases s with
      | nil => rfl
      | cons b r =>
        have e0 : nthS (b :: r) 0 = some (b : Int) := rfl
        have e1 : eqL (b :: r) [] = false := rfl
        simp only [if_true, e0, e1, Bool.not_false, Option.bind_some, noteN, h37, hc, Bool.true_and]
        by_cases hb : b = 37
        · subst hb
          rw [decide_eq_true (show ((37 : Nat) : Int) = 37 from rfl), decide_eq_true (rfl : 37 = 37), if_pos rfl, Bool.true_and, beq_self_eq_true]
        · rw [decide_eq_false (show ¬ (b : Int) = 37 by omega), decide_eq_false hb]; rfl
  | d + 1, m, i, y, h, hy => by
    have hi : i < s.length := by omega
    have ih := notes_l k hs hl d m (i + 1)
    rw [show d + 1 + 1 + m = (d + 1 + m) + 1 from by omega, g11_l4_s, decide_eq_true (show (i : Int) < (s.length : Int) by omega)]
    have ht := take_nl hi
    simp only [if_true, jn, nthS_get hi, Option.bind_some, fw_succ (show i < 9223372036854775807 by omega)]
    cases hyb : y with
    | true =>
      have hc : (s.take i).contains 10 = false := by rw [hyb] at hy; simpa using hy.symm
      simp only [if_true]
      refine ih _ (by omega) ?_
      rw [ht, hc, Bool.false_or]
      by_cases hb : s[i] = 10
      · rw [decide_eq_true hb, decide_eq_true (show ((s[i] : Nat) : Int) = 10 by omega)]
      · rw [decide_eq_false hb, decide_eq_false (show ¬ ((s[i] : Nat) : Int) = 10 by omega)]
    | false =>
      have hc : (s.take i).contains 10 = true := by rw [hyb] at hy; simpa using hy.symm
      simp only [Bool.false_eq_true, if_false]
      refine ih _ (by omega) ?_
      rw [ht, hc]; rfl
theorem cellNotes_true (s : List Nat) (hs : ∀ b ∈ s, b < 256) (hl : s.length ≤ 140737488351232) : ∃ k, g11 k s = some true := by
  refine ⟨s.length + 20060 + 200, ?_⟩
  unfold g11
  have told := told12_at (s.length + 200)
  rw [show s.length + 200 + 20060 = s.length + 20060 + 200 from by omega] at told
  by_cases h : 100 < s.length
  · rw [decide_eq_true (show (100 : Int) < (s.length : Int) by omega)]
    simp only [if_true, told, Option.bind_some]
  · rw [decide_eq_false (show ¬ (100 : Int) < (s.length : Int) by omega)]
    have := notes_l s.length hs (show s.length ≤ 100 by omega) s.length 20259 0 true (by omega) rfl
    rw [show s.length + 1 + 20259 = s.length + 20060 + 200 from by omega] at this
    simp only [Bool.false_eq_true, if_false, trim_at (show s.length + 1 ≤ s.length + 20060 + 200 by omega) hl, Option.bind_some]
    exact this
end Go.Proofs.Ytfkefelgjbfkjaa.Am
