/- CellIndents comes out true. -/
import Derived.Test.YtfkefelgjbfkjaaCellB
import Derived.Test.YtfkefelgjbfkjaaG10
set_option maxRecDepth 100000
set_option linter.unusedVariables false
set_option linter.unusedSimpArgs false
namespace Go.Proofs.Ytfkefelgjbfkjaa.Am
open Go

theorem rep_blank {m i : Nat} (h : i < m) : ∃ b, (List.replicate m 32)[i]? = some b ∧ blankB b = true := ⟨32, by simp [h], rfl⟩
theorem trim_rep (m : Nat) : trimN (List.replicate m 32) = [] := by
  unfold trimN
  have := tix_blank (s := List.replicate m 32) 0 m (fun i _ h => rep_blank (by omega))
  rw [List.length_replicate]
  rw [Nat.zero_add] at this
  rw [this]; rfl
theorem trim_x (m : Nat) : trimN (List.replicate m 32 ++ [120] ++ List.replicate m 32) = List.replicate m 32 ++ [120] := by
  unfold trimN
  have e : tix (List.replicate m 32 ++ [120] ++ List.replicate m 32) (List.replicate m 32 ++ [120] ++ List.replicate m 32).length = m + 1 := by
    rw [List.length_append, List.length_append, List.length_replicate]
    show tix _ (m + 1 + m) = m + 1
    rw [tix_blank (m + 1) m]
    · refine tix_stop (b := 120) ?_ rfl
      rw [List.append_assoc, List.getElem?_append_right (by simp)]
      simp
    · intro i h1 h2
      rw [List.getElem?_append_right (by simp; omega)]
      exact rep_blank (by simp; omega)
  rw [e]
  rw [List.take_append_of_le_length (by simp)]
  exact List.take_of_length_le (by simp)
theorem fw_addm {x y : Nat} (h : x + y < 9223372036854775807) : fwrap .i64 ((x : Int) + (y : Int)) = ((x + y : Nat) : Int) := by
  have : (x : Int) + (y : Int) = ((x + y : Nat) : Int) := by omega
  rw [this, fwn _ (by omega)]
theorem indents_l (k : Nat) (a : Int) (M : Nat) (hM : M ≤ 20000) (hm : minI (maxI (fwrap .i64 (fwrap .i64 ((fwrap .u64 a).tmod 20100) - 50)) 0) 20000 = (M : Int)) : ∀ (d m i : Nat), M ≤ i + d → i < M + 97 → g10_l5 (k + 40060) a (List.replicate M 32) (d + 1 + m) (i : Int) = some true := by
  have fin : ∀ (m i : Nat), M ≤ i → g10_l5 (k + 40060) a (List.replicate M 32) (m + 1) (i : Int) = some true := by
    intro m i h
    have hl : (List.replicate M 32).length = M := List.length_replicate
    have eqs : ∀ l : List Nat, eqL l l = true := fun l => (eqL_iff l l).2 rfl
    have c1 : catS (List.replicate M 32) [120] = some (List.replicate M 32 ++ [120]) := by unfold catS; rw [if_pos (by simp; omega)]
    have c2 : catS (List.replicate M 32 ++ [120]) (List.replicate M 32) = some (List.replicate M 32 ++ [120] ++ List.replicate M 32) := by unfold catS; rw [if_pos (by simp; omega)]
    have t1 := trim_at (k := k + 40060) (s := List.replicate M 32) (by rw [hl]; omega) (by rw [hl]; omega)
    have t2 := trim_at (k := k + 40060) (s := List.replicate M 32 ++ [120] ++ List.replicate M 32) (by simp; omega) (by simp; omega)
    have w := last_at (k := k + 40060) (s := List.replicate M 32) 7 (by rw [hl]; omega) (bytes_rep M) (by rw [hl]; omega)
    rw [trim_rep] at t1; rw [trim_x] at t2
    unfold lastAt at w
    rw [lnl_rep, if_pos rfl, CC_rep] at w
    have told := told12_at (k + 20000)
    rw [show k + 20000 + 20060 = k + 40060 from by omega] at told
    rw [g10_l5_s, hl, decide_eq_false (show ¬ (i : Int) < (M : Int) by omega)]
    simp only [Bool.false_eq_true, if_false, told, t1, t2, c1, c2, w, Option.bind_some, if_true, eqs, hm, decide_true, show eqL [] [] = true from rfl]
  intro d
  induction d with
  | zero => intro m i h1 h2; rw [show 0 + 1 + m = m + 1 from by omega]; exact fin m i (by omega)
  | succ d ih =>
    intro m i h1 h2
    rw [show d + 1 + 1 + m = (d + 1 + m) + 1 from by omega]
    by_cases h : M ≤ i
    · exact fin _ i h
    · have hi : i < (List.replicate M 32).length := by rw [List.length_replicate]; omega
      have e1 := nthS_get hi
      rw [List.getElem_replicate] at e1
      have e3 : fwrap .i64 ((i : Int) + 97) = ((i + 97 : Nat) : Int) := fw_addm (x := i) (y := 97) (by omega)
      rw [g10_l5_s, decide_eq_true (show (i : Int) < ((List.replicate M 32).length : Int) by omega)]
      simp only [if_true, e1, Option.bind_some, e3, show (decide (((32 : Nat) : Int) = 32)) = true from rfl, Bool.not_true, Bool.false_eq_true, if_false]
      exact ih m (i + 97) (by clear e3 e1; omega) (by clear e3 e1; omega)
theorem cellIndents_true (a : Int) : ∃ k, g10 k a = some true := by
  refine ⟨0 + 40060, ?_⟩
  unfold g10
  have hM := indM_le (fwrap .i64 (fwrap .i64 ((fwrap .u64 a).tmod 20100) - 50))
  have hm := indM_eq (fwrap .i64 (fwrap .i64 ((fwrap .u64 a).tmod 20100) - 50))
  rw [indent_at (show 20001 ≤ 0 + 40060 by omega), Option.bind_some]
  unfold indN
  revert hM hm
  generalize indM (fwrap .i64 (fwrap .i64 ((fwrap .u64 a).tmod 20100) - 50)) = M
  intro hM hm
  have hl : (List.replicate M 32).length = M := List.length_replicate
  have w := width_at (k := 0 + 40060) (s := List.replicate M 32) (by rw [hl]; omega) (bytes_rep M) (by rw [hl]; omega)
  rw [CC_rep] at w
  have := indents_l 0 a M hM hm M (40060 - (M + 1)) 0 (by omega) (by omega)
  rw [show M + 1 + (40060 - (M + 1)) = 0 + 40060 from by omega] at this
  simp only [jn, hl, hm, w, decide_true, Bool.not_true, Bool.false_eq_true, if_false, Option.bind_some]
  exact this
end Go.Proofs.Ytfkefelgjbfkjaa.Am
