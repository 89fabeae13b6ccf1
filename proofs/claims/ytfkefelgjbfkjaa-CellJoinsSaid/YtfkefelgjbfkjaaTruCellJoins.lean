/- CellJoins comes out true. -/
import Derived.Test.YtfkefelgjbfkjaaCellB
import Derived.Test.YtfkefelgjbfkjaaG9
set_option maxRecDepth 100000
set_option linter.unusedVariables false
set_option linter.unusedSimpArgs false
namespace Go.Proofs.Ytfkefelgjbfkjaa.Am
open Go

theorem CC_le (s : List Nat) : CC s ≤ s.length := cpc_le s.length s (Nat.le_refl _)
theorem CC_join {a b : List Nat} (hv : vld a.length a = true) : CC (a ++ b) = CC a + CC b := (join_all hv).2
theorem fw_addn {x y : Nat} (h : x + y < 9223372036854775807) : fwrap .i64 ((x : Int) + (y : Int)) = ((x + y : Nat) : Int) := by
  have : (x : Int) + (y : Int) = ((x + y : Nat) : Int) := by omega
  rw [this, fwn _ (by omega)]
theorem last_join {a b : List Nat} {c : Nat} (hc : c ≤ 100000) (ha : a.length ≤ 200) (hb : b.length ≤ 200) (hv : vld a.length a = true) : lastAt (a ++ b) (c : Int) (a ++ b).length = lastAt b (lastAt a (c : Int) a.length) b.length := by
  have l1 := CC_le a
  have l2 := CC_le b
  have h := lnl_join (a := a) (b := b) b.length
  unfold lastAt
  rw [List.length_append, h]
  by_cases h0 : lnl b b.length = 0
  · rw [if_pos h0, if_pos h0]
    by_cases h1 : lnl a a.length = 0
    · rw [if_pos h1, if_pos h1, CC_join hv, fw_addn (by omega), fw_addn (by omega), fw_addn (by omega)]
      congr 1; omega
    · rw [if_neg h1, if_neg h1]
      obtain ⟨q, hq⟩ : ∃ q, lnl a a.length = q + 1 := ⟨lnl a a.length - 1, by omega⟩
      have hle := lnl_le a a.length
      rw [List.drop_append_of_le_length hle, hq, CC_join (vld_cut _ _ _ _ (Nat.le_refl _) hv (lnl_byte hq) (by decide))]
      have := CC_le (a.drop (q + 1))
      rw [List.length_drop] at this
      rw [fw_addn (by omega)]
  · rw [if_neg h0, if_neg h0, if_neg (by omega), List.drop_append, show a.length + lnl b b.length - a.length = lnl b b.length from by omega, List.drop_eq_nil_of_le (show a.length ≤ a.length + lnl b b.length by omega), List.nil_append]
theorem trim_tail (a : List Nat) : trimN (a ++ [32, 32, 9]) = trimN a := by
  unfold trimN
  have e : tix (a ++ [32, 32, 9]) (a ++ [32, 32, 9]).length = tix a a.length := by
    rw [List.length_append]
    show tix (a ++ [32, 32, 9]) (a.length + 3) = _
    rw [tix_blank a.length 3]
    · exact tix_app _ (Nat.le_refl _)
    · intro i h1 h2
      rw [List.getElem?_append_right (by omega)]
      have : i - a.length = 0 ∨ i - a.length = 1 ∨ i - a.length = 2 := by omega
      rcases this with h | h | h <;> rw [h]
      · exact ⟨32, rfl, rfl⟩
      · exact ⟨32, rfl, rfl⟩
      · exact ⟨9, rfl, rfl⟩
  rw [e, List.take_append_of_le_length (tix_le a _)]
theorem last_nl (a : List Nat) (c : Int) : lastAt (a ++ [10]) c (a ++ [10]).length = 0 := by
  have h : lnl (a ++ [10]) (a ++ [10]).length = a.length + 1 := by
    rw [List.length_append]
    show lnl (a ++ [10]) (a.length + 1) = _
    rw [lnl_join]; rfl
  unfold lastAt
  rw [h, if_neg (by omega), List.drop_eq_nil_of_le (by simp)]
  rfl
theorem cellJoins_true (a b : List Nat) (c : Int) (ha : ∀ x ∈ a, x < 256) (la : a.length ≤ 140737488351232) (hb : ∀ x ∈ b, x < 256) (lb : b.length ≤ 140737488351232) : ∃ k, g9 k a b c = some true := by
  refine ⟨a.length + b.length + 20060, ?_⟩
  unfold g9
  by_cases h1 : 200 < a.length
  · rw [decide_eq_true (show (200 : Int) < (a.length : Int) by omega)]
    simp only [jn, if_true, told12_at, Option.bind_some]
  · rw [decide_eq_false (show ¬ (200 : Int) < (a.length : Int) by omega)]
    by_cases h2 : 200 < b.length
    · rw [decide_eq_true (show (200 : Int) < (b.length : Int) by omega)]
      simp only [jn, if_true, Bool.false_eq_true, if_false, told12_at, Option.bind_some]
    · rw [decide_eq_false (show ¬ (200 : Int) < (b.length : Int) by omega)]
      have va := (valid_at (k := a.length + b.length + 20060) (by omega) ha la).2
      have vb := (valid_at (k := a.length + b.length + 20060) (by omega) hb lb).2
      simp only [jn, Bool.false_eq_true, if_false, va, vb, Option.bind_some, told12_at]
      cases hva : vld a.length a with
      | false => simp
      | true =>
        cases hvb : vld b.length b with
        | false => simp
        | true =>
          obtain ⟨i, hi, hi1, -⟩ := tmod_at c 1001 (by decide) (by decide)
          have hi2 : fwrap .i64 ((fwrap .u64 c).tmod 1001) = (i : Int) := by
            have : (fwrap .u64 c).tmod 1001 = (i : Int) := hi1
            rw [this, fwn _ (by omega)]
          have lab : (a ++ b).length ≤ 140737488351232 := by rw [List.length_append]; omega
          have hc : catS a b = some (a ++ b) := by unfold catS; rw [if_pos (by omega)]
          have hc1 : catS a [32, 32, 9] = some (a ++ [32, 32, 9]) := by unfold catS; rw [if_pos (by simp; omega)]
          have hc2 : catS a [10] = some (a ++ [10]) := by unfold catS; rw [if_pos (by simp; omega)]
          have b1 : Bytes [10] := by intro b hb; simp at hb; omega
          have K : ∀ s : List Nat, s.length ≤ a.length + b.length + 3 → s.length + 6 ≤ a.length + b.length + 20060 := fun s h => by omega
          have eqs : ∀ l : List Nat, eqL l l = true := fun l => (eqL_iff l l).2 rfl
          have w1 := CC_le a
          have w2 := CC_le b
          have hsum : fwrap .i64 (((CC a : Nat) : Int) + ((CC b : Nat) : Int)) = ((CC a + CC b : Nat) : Int) := fw_addn (by omega)
          simp only [if_true, Bool.not_true, Bool.false_eq_true, if_false, hc, hc1, hc2, hi2, Option.bind_some,
            last_at _ (K (a ++ b) (by rw [List.length_append]; omega)) (bytes_app ha hb) lab, last_at _ (K a (by omega)) ha la, last_at _ (K b (by omega)) hb lb,
            last_join (show i ≤ 100000 by omega) (show a.length ≤ 200 by omega) (show b.length ≤ 200 by omega) hva, decide_true,
            trim_at (k := a.length + b.length + 20060) (s := a ++ [32, 32, 9]) (by simp; omega) (by simp; omega), trim_at (k := a.length + b.length + 20060) (s := a) (by omega) la, trim_tail, eqs,
            last_at (k := a.length + b.length + 20060) (s := a ++ [10]) _ (by simp; omega) (bytes_app ha b1) (by simp; omega), last_nl,
            width_at (K (a ++ b) (by rw [List.length_append]; omega)) (bytes_app ha hb) lab, width_at (K a (by omega)) ha la, width_at (K b (by omega)) hb lb, hsum, CC_join hva]
end Go.Proofs.Ytfkefelgjbfkjaa.Am
