/- UtfReads comes out true: both readings tell the same at each place, and so do Valid, Count and Put. -/
import Derived.Test.YtfkefelgjbfkjaaUtfD
import Derived.Test.YtfkefelgjbfkjaaG3
set_option maxRecDepth 100000
set_option linter.unusedVariables false
set_option linter.unusedSimpArgs false
namespace Go.Proofs.Ytfkefelgjbfkjaa.Am
open Go

theorem told1_60 (k : Nat) : g12 (k + 60) = some true := by kernel_rfl
theorem next_any {k : Nat} (hk : 6 ≤ k) {s : List Nat} (hs : ∀ b ∈ s, b < 256) (hl : s.length ≤ 140737488351232) (a : Int) : ∃ p, g13 k s a = some p ∧ g14 k s a = some p := by
  by_cases h : a < 0
  · exact ⟨_, next_out h, rnext_out h⟩
  · obtain ⟨c, rfl⟩ : ∃ c : Nat, a = (c : Int) := ⟨a.toNat, by omega⟩
    exact ⟨_, next_at hk hs hl c, rnext_at hk hs hl c⟩
theorem eqL_self (l : List Nat) : eqL l l = true := (eqL_iff l l).2 rfl
theorem reads_l (k : Nat) (n : Int) {s : List Nat} (hs : ∀ b ∈ s, b < 256) (hl : s.length ≤ 140737488351232) (hk : s.length + 6 ≤ k + 60) : ∀ (d m i : Nat), s.length ≤ i + d → g3_l7 (k + 60) s n (d + 1 + m) (i : Int) = some true := by
  intro d
  have fin : ∀ (m i : Nat), s.length ≤ i → g3_l7 (k + 60) s n (m + 1) (i : Int) = some true := by
    intro m i h
    rw [g3_l7_s, decide_eq_false (show ¬ (i : Int) < (s.length : Int) by omega)]
    simp only [Bool.false_eq_true, if_false, told1_60, Option.bind_some, (valid_at hk hs hl).1, (valid_at hk hs hl).2, (count_at hk hs hl).1, (count_at hk hs hl).2, put_at (show 6 ≤ k + 60 by omega), rput_at, eqL_self, if_true, beq_self_eq_true, decide_true]
  induction d with
  | zero => intro m i h; rw [show 0 + 1 + m = m + 1 from by omega]; exact fin m i (by omega)
  | succ d ih =>
    intro m i h
    by_cases hi : s.length ≤ i
    · rw [show d + 1 + 1 + m = (d + 1 + m) + 1 from by omega]; exact fin _ i hi
    · rw [show d + 1 + 1 + m = (d + 1 + m) + 1 from by omega, g3_l7_s, decide_eq_true (show (i : Int) < (s.length : Int) by omega)]
      have e3 : fwrap .i64 ((i : Int) + 1) = ((i + 1 : Nat) : Int) := by
        have : (i : Int) + 1 = ((i + 1 : Nat) : Int) := by omega
        rw [this, fwn _ (by omega)]
      simp only [if_true, next_at (show 6 ≤ k + 60 by omega) hs hl, rnext_at (show 6 ≤ k + 60 by omega) hs hl, Option.bind_some, jn, decide_true, Bool.not_true, Bool.false_eq_true, if_false, e3]
      exact ih m (i + 1) (by clear e3; omega)
theorem utfReads_true (s : List Nat) (a n : Int) (hs : ∀ b ∈ s, b < 256) (hl : s.length ≤ 140737488351232) : ∃ k, g3 k s a n = some true := by
  refine ⟨s.length + 60, ?_⟩
  unfold g3
  by_cases h : 400 < s.length
  · rw [decide_eq_true (show (400 : Int) < (s.length : Int) by omega)]
    simp only [if_true, told1_60, Option.bind_some]
  · rw [decide_eq_false (show ¬ (400 : Int) < (s.length : Int) by omega)]
    obtain ⟨p, h1, h2⟩ := next_any (show 6 ≤ s.length + 60 by omega) hs hl a
    simp only [Bool.false_eq_true, if_false, h1, h2, Option.bind_some, jn, decide_true, Bool.not_true]
    have := reads_l s.length n hs hl (by omega) s.length 59 0 (by omega)
    rw [show s.length + 1 + 59 = s.length + 60 from by omega] at this
    exact this
end Go.Proofs.Ytfkefelgjbfkjaa.Am
