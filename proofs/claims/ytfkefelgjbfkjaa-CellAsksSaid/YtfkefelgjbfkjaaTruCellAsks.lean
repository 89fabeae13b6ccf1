/- CellAsks comes out true. -/
import Derived.Test.YtfkefelgjbfkjaaCellB
import Derived.Test.YtfkefelgjbfkjaaG8
set_option maxRecDepth 100000
set_option linter.unusedVariables false
set_option linter.unusedSimpArgs false
namespace Go.Proofs.Ytfkefelgjbfkjaa.Am
open Go

theorem cellAsks_true (s : List Nat) (c n : Int) (hs : ∀ b ∈ s, b < 256) (hl : s.length ≤ 140737488351232) : ∃ k, g8 k s c n = some true := by
  refine ⟨s.length + 20060, ?_⟩
  unfold g8
  by_cases h : 400 < s.length
  · rw [decide_eq_true (show (400 : Int) < (s.length : Int) by omega)]
    simp only [if_true, told12_at, Option.bind_some]
  · rw [decide_eq_false (show ¬ (400 : Int) < (s.length : Int) by omega)]
    have e : ∀ l : List Nat, eqL l l = true := fun l => (eqL_iff l l).2 rfl
    simp only [Bool.false_eq_true, if_false, if_true, told12_at, Option.bind_some, width_at (show s.length + 6 ≤ s.length + 20060 by omega) hs hl, (count_at (show s.length + 6 ≤ s.length + 20060 by omega) hs hl).2, CC, decide_true,
      last_at _ (show s.length + 6 ≤ s.length + 20060 by omega) hs hl, rlast_at _ (show s.length + 6 ≤ s.length + 20060 by omega) hs hl, indent_at (show 20001 ≤ s.length + 20060 by omega), rindent_at (show 20001 ≤ s.length + 20060 by omega),
      trim_at (show s.length + 1 ≤ s.length + 20060 by omega) hl, rtrim_at (show s.length + 1 ≤ s.length + 20060 by omega) hl, note_at (show s.length + 1 ≤ s.length + 20060 by omega) hl, rnote_at (show s.length + 1 ≤ s.length + 20060 by omega) hl, e, beq_self_eq_true]
end Go.Proofs.Ytfkefelgjbfkjaa.Am
