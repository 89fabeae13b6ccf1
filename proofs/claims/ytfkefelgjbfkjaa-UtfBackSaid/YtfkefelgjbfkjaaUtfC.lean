/- utf: utf.Next and galleyref1.Next tell dec; utf.Valid, Count and galleyref1.Valid, Count tell vld, cpc; utf.Put and galleyref1.Put tell the same. -/
import Derived.Test.YtfkefelgjbfkjaaUtfB
import Derived.Test.YtfkefelgjbfkjaaG15
import Derived.Test.YtfkefelgjbfkjaaG16
import Derived.Test.YtfkefelgjbfkjaaG17
import Derived.Test.YtfkefelgjbfkjaaG18
set_option maxRecDepth 100000
set_option linter.unusedVariables false
set_option linter.unusedSimpArgs false
namespace Go.Proofs.Ytfkefelgjbfkjaa.Am
open Go

theorem lead_le (c : Nat) : (leadN c).1 ≤ 4 := by
  unfold leadN; repeat' split
  all_goals simp
theorem lead_lt {c : Nat} (h : 2 ≤ (leadN c).1) : (leadN c).2 < 64 ^ 1 := by
  unfold leadN at *
  split at h
  · simp at h
  · rename_i h1
    rw [if_neg h1]
    repeat' split
    all_goals (simp only []; omega)
theorem next_at {k : Nat} (hk : 6 ≤ k) {s : List Nat} (hs : ∀ b ∈ s, b < 256) (hl : s.length ≤ 140737488351232) (i : Nat) : g13 k s (i : Int) = some (dec (s.drop i)) := by
  unfold g13
  have e0 : decide ((i : Int) < 0) = false := decide_eq_false (by omega)
  by_cases hi : i < s.length
  · have e1 : decide ((s.length : Int) ≤ (i : Int)) = false := by simp; omega
    obtain ⟨c, r, hc, hr, hm⟩ := drop_cons hi
    have hc' := hs c hm
    have hrl : r.length + i + 1 = s.length := by rw [← hr, List.length_drop]; omega
    have e2 : fwrap .i64 ((s.length : Int) - (i : Int)) = ((r.length + 1 : Nat) : Int) := by
      have : (s.length : Int) - (i : Int) = ((r.length + 1 : Nat) : Int) := by omega
      rw [this, fwn _ (by omega)]
    simp only [e0, e1, nthS_at hc, lead_at hc', Option.bind_some, jn, e2, hc, dec]
    have l4 := lead_le c
    by_cases h0 : (leadN c).1 = 0
    · simp [h0]
    · have e3 : decide ((((leadN c).1 : Nat) : Int) = 0) = false := by simp; omega
      rw [if_neg h0, e3]
      by_cases h1 : r.length + 1 < (leadN c).1
      · have e4 : decide (((r.length + 1 : Nat) : Int) < (((leadN c).1 : Nat) : Int)) = true := by simp only [decide_eq_true_eq]; omega
        rw [e4, moreN_none _ _ _ (by omega)]
        rfl
      · have e4 : decide (((r.length + 1 : Nat) : Int) < (((leadN c).1 : Nat) : Int)) = false := by simp only [decide_eq_false_iff_not]; omega
        rw [e4]
        simp only [if_false, Bool.false_eq_true]
        by_cases h2 : (leadN c).1 = 1
        · have w := next_l k s hs hl i 1 (leadN c).2 (by decide) (by omega) 0 (k - 1) 1
          obtain ⟨k', rfl⟩ : ∃ k', k = k' + 1 := ⟨k - 1, by omega⟩
          rw [h2, g13_l5_s]
          have e5 : decide ((1 : Int) < ((1 : Nat) : Int)) = false := by decide
          simp only [e5, least_at (by decide : 1 ≤ 4), cp_at, Option.bind_some, jn, moreN, fitN]
          have e6 : decide ((((leadN c).2 : Nat) : Int) < ((leastN 1 : Nat) : Int)) = false := by simp [leastN]
          rw [e6]
          have e7 : leastN 1 ≤ (leadN c).2 := by simp [leastN]
          cases hcp : cpN (leadN c).2 <;> simp [e7, moreN, hcp]
        · have w := next_l k s hs hl i (leadN c).1 (leadN c).2 l4 (by omega) ((leadN c).1 - 1) (k - (leadN c).1) 1 (leadN c).2 (by omega) (by decide) (lead_lt (by omega))
          rw [show (leadN c).1 - 1 + 1 + (k - (leadN c).1) = k from by omega, hr] at w
          exact w
  · have e1 : decide ((s.length : Int) ≤ (i : Int)) = true := by simp; omega
    rw [e0, e1, List.drop_eq_nil_of_le (by omega)]
    rfl
theorem rnext_at {k : Nat} (hk : 6 ≤ k) {s : List Nat} (hs : ∀ b ∈ s, b < 256) (hl : s.length ≤ 140737488351232) (i : Nat) : g14 k s (i : Int) = some (dec (s.drop i)) := by
  unfold g14
  have e0 : decide ((i : Int) < 0) = false := decide_eq_false (by omega)
  by_cases hi : i < s.length
  · have e1 : decide ((s.length : Int) ≤ (i : Int)) = false := by simp; omega
    obtain ⟨c, r, hc, hr, hm⟩ := drop_cons hi
    have hc' := hs c hm
    have hrl : r.length + i + 1 = s.length := by rw [← hr, List.length_drop]; omega
    have e2 : fwrap .i64 ((s.length : Int) - (i : Int)) = ((r.length + 1 : Nat) : Int) := by
      have : (s.length : Int) - (i : Int) = ((r.length + 1 : Nat) : Int) := by omega
      rw [this, fwn _ (by omega)]
    have a31 : andI .i64 (c : Int) 31 = ((c % 32 : Nat) : Int) := by have := andI64 (c : Int) 5 (by decide); exact this
    have a15 : andI .i64 (c : Int) 15 = ((c % 16 : Nat) : Int) := by have := andI64 (c : Int) 4 (by decide); exact this
    have a7 : andI .i64 (c : Int) 7 = ((c % 8 : Nat) : Int) := by have := andI64 (c : Int) 3 (by decide); exact this
    simp only [e0, e1, nthS_at hc, Option.bind_some, jn, e2, hc, dec, fwn c (by omega), a31, a15, a7]
    have step : ∀ (n q : Nat), 2 ≤ n → n ≤ 4 → q < 64 ^ 1 → leadN c = (n, q) →
        (if decide (((r.length + 1 : Nat) : Int) < (n : Int)) then some ((-1 : Int), (1 : Int)) else g14_l9 k s (i : Int) ((q : Int), (n : Int), ((leastN n : Nat) : Int)) k (q : Int) 1) = some (fitN n (moreN (n - 1) q r)) := by
      intro n q hn hn4 hq hlead
      by_cases h1 : r.length + 1 < n
      · rw [if_pos (by simp only [decide_eq_true_eq]; omega), moreN_none _ _ _ (by omega)]
        rfl
      · rw [if_neg (by simp only [decide_eq_true_eq]; omega)]
        have w := rnext_l k s hs hl i n q hn4 (by omega) (n - 1) (k - n) 1 q (by omega) (by decide) hq
        rw [show n - 1 + 1 + (k - n) = k from by omega, hr] at w
        exact w
    by_cases c1 : c < 128
    · have : leadN c = (1, c) := by unfold leadN; rw [if_pos c1]
      have hcp : cpN c = true := by unfold cpN; simp; omega
      rw [this, decide_eq_true (show (c : Int) < 128 by omega)]
      simp [moreN, fitN, leastN, hcp]
    · rw [decide_eq_false (show ¬ (c : Int) < 128 by omega)]
      simp only [Bool.false_eq_true, if_false]
      by_cases c2 : 192 ≤ c ∧ c < 224
      · have hL : leadN c = (2, c % 32) := by unfold leadN; rw [if_neg c1, if_pos (by omega)]
        rw [decide_eq_true (show (192 : Int) ≤ (c : Int) by omega), decide_eq_true (show (c : Int) < 224 by omega), hL]
        exact step 2 (c % 32) (by decide) (by decide) (by omega) hL
      · have n1 : ¬ c / 32 = 6 := by omega
        by_cases c3 : 224 ≤ c ∧ c < 240
        · have hL : leadN c = (3, c % 16) := by unfold leadN; rw [if_neg c1, if_neg n1, if_pos (by omega)]
          rw [decide_eq_true (show (192 : Int) ≤ (c : Int) by omega), decide_eq_false (show ¬ (c : Int) < 224 by omega), decide_eq_true (show (224 : Int) ≤ (c : Int) by omega), decide_eq_true (show (c : Int) < 240 by omega), hL]
          exact step 3 (c % 16) (by decide) (by decide) (by omega) hL
        · have n2 : ¬ c / 16 = 14 := by omega
          by_cases c4 : 240 ≤ c ∧ c < 248
          · have hL : leadN c = (4, c % 8) := by unfold leadN; rw [if_neg c1, if_neg n1, if_neg n2, if_pos (by omega)]
            rw [decide_eq_true (show (192 : Int) ≤ (c : Int) by omega), decide_eq_false (show ¬ (c : Int) < 224 by omega), decide_eq_true (show (224 : Int) ≤ (c : Int) by omega), decide_eq_false (show ¬ (c : Int) < 240 by omega), decide_eq_true (show (240 : Int) ≤ (c : Int) by omega), decide_eq_true (show (c : Int) < 248 by omega), hL]
            exact step 4 (c % 8) (by decide) (by decide) (by omega) hL
          · have n3 : ¬ c / 8 = 30 := by omega
            have hL : leadN c = (0, 0) := by unfold leadN; rw [if_neg c1, if_neg n1, if_neg n2, if_neg n3]
            rw [hL]
            by_cases d1 : 192 ≤ c
            · rw [decide_eq_true (show (192 : Int) ≤ (c : Int) by omega), decide_eq_false (show ¬ (c : Int) < 224 by omega), decide_eq_true (show (224 : Int) ≤ (c : Int) by omega), decide_eq_false (show ¬ (c : Int) < 240 by omega), decide_eq_true (show (240 : Int) ≤ (c : Int) by omega), decide_eq_false (show ¬ (c : Int) < 248 by omega)]
              rfl
            · rw [decide_eq_false (show ¬ (192 : Int) ≤ (c : Int) by omega), decide_eq_false (show ¬ (224 : Int) ≤ (c : Int) by omega), decide_eq_false (show ¬ (240 : Int) ≤ (c : Int) by omega)]
              rfl
  · have e1 : decide ((s.length : Int) ≤ (i : Int)) = true := by simp; omega
    rw [e0, e1, List.drop_eq_nil_of_le (by omega)]
    rfl
theorem next_out {k : Nat} {s : List Nat} {a : Int} (h : a < 0) : g13 k s a = some (0, 0) := by
  unfold g13
  rw [decide_eq_true h]; rfl
theorem rnext_out {k : Nat} {s : List Nat} {a : Int} (h : a < 0) : g14 k s a = some (0, 0) := by
  unfold g14
  rw [decide_eq_true h]; rfl
/-! ### how long what is read is -/
theorem dec_size {s : List Nat} (h : s ≠ []) : ∃ n : Nat, (dec s).2 = (n : Int) ∧ 1 ≤ n ∧ n ≤ 4 ∧ n ≤ s.length ∧ ((dec s).1 < 0 → n = 1) := by
  cases s with
  | nil => exact absurd rfl h
  | cons c r =>
    have hd : dec (c :: r) = if (leadN c).1 = 0 then (-1, 1) else fitN (leadN c).1 (moreN ((leadN c).1 - 1) (leadN c).2 r) := rfl
    rw [hd]
    by_cases h0 : (leadN c).1 = 0
    · rw [if_pos h0]
      exact ⟨1, rfl, by decide, by decide, by simp, fun _ => rfl⟩
    · rw [if_neg h0]
      cases hm : moreN ((leadN c).1 - 1) (leadN c).2 r with
      | none => exact ⟨1, rfl, by decide, by decide, by simp, fun _ => rfl⟩
      | some y =>
        unfold fitN
        simp only []
        split
        · have := lead_le c
          refine ⟨(leadN c).1, rfl, by omega, this, ?_, ?_⟩
          · rcases Nat.lt_or_ge r.length ((leadN c).1 - 1) with hlt | hge
            · rw [moreN_none _ _ _ hlt] at hm; cases hm
            · simp; omega
          · intro hneg
            simp at hneg
            omega
        · exact ⟨1, rfl, by decide, by decide, by simp, fun _ => rfl⟩
/-! ### texts -/
def vld : Nat → List Nat → Bool
  | _, [] => true
  | 0, _ => false
  | n + 1, s => if (dec s).1 < 0 then false else vld n (s.drop (dec s).2.toNat)
def cpc : Nat → List Nat → Nat
  | _, [] => 0
  | 0, _ => 0
  | n + 1, s => cpc n (s.drop (dec s).2.toNat) + 1
theorem drop_lt {s : List Nat} {i : Nat} (h : i < s.length) : s.drop i ≠ [] := by
  intro e
  have := congrArg List.length e
  simp at this
  omega
theorem valid_l {k : Nat} (hk : 6 ≤ k) {s : List Nat} (hs : ∀ b ∈ s, b < 256) (hl : s.length ≤ 140737488351232) : ∀ (d m i : Nat), s.length ≤ i + d → i ≤ s.length → g15_l1 k s (d + 1 + m) (i : Int) = some (vld d (s.drop i)) ∧ g16_l1 k s (d + 1 + m) (i : Int) = some (vld d (s.drop i)) := by
  intro d
  induction d with
  | zero =>
    intro m i h1 h2
    have e : s.drop i = [] := List.drop_eq_nil_of_le (by omega)
    rw [show 0 + 1 + m = m + 1 from by omega, g15_l1_s, g16_l1_s, e, decide_eq_false (show ¬ (i : Int) < (s.length : Int) by omega)]
    exact ⟨rfl, rfl⟩
  | succ d ih =>
    intro m i h1 h2
    rw [show d + 1 + 1 + m = (d + 1 + m) + 1 from by omega, g15_l1_s, g16_l1_s]
    by_cases hi : i < s.length
    · rw [decide_eq_true (show (i : Int) < (s.length : Int) by omega)]
      obtain ⟨c, r, hc, -, -⟩ := drop_cons hi
      obtain ⟨n, n1, n2, n3, n4, n5⟩ := dec_size (drop_lt hi)
      rw [List.length_drop] at n4
      have b1 : s.length ≤ i + n + d := by clear n1; omega
      have b2 : i + n ≤ s.length := by clear n1; omega
      simp only [next_at hk hs hl, rnext_at hk hs hl, Option.bind_some, if_true]
      have hv : vld (d + 1) (s.drop i) = if (dec (s.drop i)).1 < 0 then false else vld d ((s.drop i).drop (dec (s.drop i)).2.toNat) := by
        rw [hc]; rfl
      rw [hv]
      by_cases hneg : (dec (s.drop i)).1 < 0
      · rw [decide_eq_true hneg, if_pos hneg]
        exact ⟨rfl, rfl⟩
      · rw [decide_eq_false hneg, if_neg hneg, n1, List.drop_drop]
        have e3 : fwrap .i64 ((i : Int) + (n : Int)) = ((i + n : Nat) : Int) := by
          have : (i : Int) + (n : Int) = ((i + n : Nat) : Int) := by omega
          rw [this, fwn _ (by omega)]
        rw [e3]
        exact ih m (i + n) b1 b2
    · have e : s.drop i = [] := List.drop_eq_nil_of_le (by omega)
      rw [e, decide_eq_false (show ¬ (i : Int) < (s.length : Int) by omega)]
      exact ⟨rfl, rfl⟩
theorem count_l {k : Nat} (hk : 6 ≤ k) {s : List Nat} (hs : ∀ b ∈ s, b < 256) (hl : s.length ≤ 140737488351232) : ∀ (d m i q : Nat), s.length ≤ i + d → i ≤ s.length → q ≤ i → g17_l1 k s (d + 1 + m) (q : Int) (i : Int) = some ((q + cpc d (s.drop i) : Nat) : Int) ∧ g18_l1 k s (d + 1 + m) (q : Int) (i : Int) = some ((q + cpc d (s.drop i) : Nat) : Int) := by
  intro d
  induction d with
  | zero =>
    intro m i q h1 h2 hq
    have e : s.drop i = [] := List.drop_eq_nil_of_le (by omega)
    rw [show 0 + 1 + m = m + 1 from by omega, g17_l1_s, g18_l1_s, e, decide_eq_false (show ¬ (i : Int) < (s.length : Int) by omega)]
    exact ⟨rfl, rfl⟩
  | succ d ih =>
    intro m i q h1 h2 hq
    rw [show d + 1 + 1 + m = (d + 1 + m) + 1 from by omega, g17_l1_s, g18_l1_s]
    by_cases hi : i < s.length
    · rw [decide_eq_true (show (i : Int) < (s.length : Int) by omega)]
      obtain ⟨c, r, hc, -, -⟩ := drop_cons hi
      obtain ⟨n, n1, n2, n3, n4, n5⟩ := dec_size (drop_lt hi)
      rw [List.length_drop] at n4
      have b1 : s.length ≤ i + n + d := by clear n1; omega
      have b2 : i + n ≤ s.length := by clear n1; omega
      have b3 : q + 1 ≤ i + n := by clear n1; omega
      simp only [next_at hk hs hl, rnext_at hk hs hl, Option.bind_some, if_true]
      have hv : cpc (d + 1) (s.drop i) = cpc d ((s.drop i).drop (dec (s.drop i)).2.toNat) + 1 := by
        rw [hc]; rfl
      rw [hv, n1, List.drop_drop]
      have e3 : fwrap .i64 ((i : Int) + (n : Int)) = ((i + n : Nat) : Int) := by
        have : (i : Int) + (n : Int) = ((i + n : Nat) : Int) := by omega
        rw [this, fwn _ (by omega)]
      have e4 : fwrap .i64 ((q : Int) + 1) = ((q + 1 : Nat) : Int) := by
        have : (q : Int) + 1 = ((q + 1 : Nat) : Int) := by omega
        rw [this, fwn _ (by omega)]
      rw [e3, e4]
      have := ih m (i + n) (q + 1) b1 b2 b3
      rw [show q + 1 + cpc d (s.drop (i + n)) = q + (cpc d (s.drop (i + n)) + 1) from by omega] at this
      exact this
    · have e : s.drop i = [] := List.drop_eq_nil_of_le (by omega)
      rw [e, decide_eq_false (show ¬ (i : Int) < (s.length : Int) by omega)]
      exact ⟨rfl, rfl⟩
theorem valid_at {k : Nat} {s : List Nat} (hk : s.length + 6 ≤ k) (hs : ∀ b ∈ s, b < 256) (hl : s.length ≤ 140737488351232) : g15 k s = some (vld s.length s) ∧ g16 k s = some (vld s.length s) := by
  have h := valid_l (k := k) (by omega) hs hl s.length (k - (s.length + 1)) 0 (by omega) (by omega)
  rw [show s.length + 1 + (k - (s.length + 1)) = k from by omega] at h
  exact h
theorem count_at {k : Nat} {s : List Nat} (hk : s.length + 6 ≤ k) (hs : ∀ b ∈ s, b < 256) (hl : s.length ≤ 140737488351232) : g17 k s = some ((cpc s.length s : Nat) : Int) ∧ g18 k s = some ((cpc s.length s : Nat) : Int) := by
  have h := count_l (k := k) (by omega) hs hl s.length (k - (s.length + 1)) 0 0 (by omega) (by omega) (by omega)
  rw [show s.length + 1 + (k - (s.length + 1)) = k from by omega, Nat.zero_add] at h
  exact h
end Go.Proofs.Ytfkefelgjbfkjaa.Am
