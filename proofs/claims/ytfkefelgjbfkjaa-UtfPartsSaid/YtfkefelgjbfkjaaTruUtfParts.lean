/- UtfParts comes out true. -/
import Derived.Test.YtfkefelgjbfkjaaUtfE
import Derived.Test.YtfkefelgjbfkjaaG5
set_option maxRecDepth 100000
set_option linter.unusedVariables false
set_option linter.unusedSimpArgs false
namespace Go.Proofs.Ytfkefelgjbfkjaa.Am
open Go

theorem told1p_60 (k : Nat) : g12 (k + 60) = some true := by kernel_rfl
theorem utfParts_true (a b : List Nat) (ha : ∀ b ∈ a, b < 256) (la : a.length ≤ 140737488351232) (hb : ∀ x ∈ b, x < 256) (lb : b.length ≤ 140737488351232) : ∃ k, g5 k a b = some true := by
  refine ⟨a.length + b.length + 60, ?_⟩
  unfold g5
  by_cases h1 : 200 < a.length
  · rw [decide_eq_true (show (200 : Int) < (a.length : Int) by omega)]
    simp only [jn, if_true, told1p_60, Option.bind_some]
  · rw [decide_eq_false (show ¬ (200 : Int) < (a.length : Int) by omega)]
    by_cases h2 : 200 < b.length
    · rw [decide_eq_true (show (200 : Int) < (b.length : Int) by omega)]
      simp only [jn, if_true, Bool.false_eq_true, if_false, told1p_60, Option.bind_some]
    · rw [decide_eq_false (show ¬ (200 : Int) < (b.length : Int) by omega)]
      have va := (valid_at (k := a.length + b.length + 60) (by omega) ha la).1
      have vb := (valid_at (k := a.length + b.length + 60) (by omega) hb lb).1
      have ca := (count_at (k := a.length + b.length + 60) (by omega) ha la).1
      have cb := (count_at (k := a.length + b.length + 60) (by omega) hb lb).1
      simp only [jn, Bool.false_eq_true, if_false, va, vb, Option.bind_some, told1p_60]
      cases hva : vld a.length a with
      | false => simp
      | true =>
        cases hvb : vld b.length b with
        | false => simp
        | true =>
          have hab : ∀ x ∈ a ++ b, x < 256 := by
            intro x hx
            rcases List.mem_append.1 hx with h | h
            · exact ha x h
            · exact hb x h
          have lab : (a ++ b).length ≤ 140737488351232 := by rw [List.length_append]; omega
          have hc : catS a b = some (a ++ b) := by unfold catS; rw [if_pos (by omega)]
          have vab := (valid_at (k := a.length + b.length + 60) (s := a ++ b) (by rw [List.length_append]; omega) hab lab).1
          have cab := (count_at (k := a.length + b.length + 60) (s := a ++ b) (by rw [List.length_append]; omega) hab lab).1
          have j := join_all (b := b) hva
          rw [j.1, hvb] at vab
          rw [j.2] at cab
          have l1 := cpc_le a.length a (Nat.le_refl _)
          have l2 := cpc_le b.length b (Nat.le_refl _)
          have e : fwrap .i64 (((cpc a.length a : Nat) : Int) + ((cpc b.length b : Nat) : Int)) = ((cpc a.length a + cpc b.length b : Nat) : Int) := by
            have : ((cpc a.length a : Nat) : Int) + ((cpc b.length b : Nat) : Int) = ((cpc a.length a + cpc b.length b : Nat) : Int) := by push_cast; rfl
            rw [this, fwn _ (by omega)]
          simp only [hc, vab, cab, ca, cb, Option.bind_some, if_true, Bool.not_true, Bool.false_eq_true, if_false, e, decide_true]
end Go.Proofs.Ytfkefelgjbfkjaa.Am
