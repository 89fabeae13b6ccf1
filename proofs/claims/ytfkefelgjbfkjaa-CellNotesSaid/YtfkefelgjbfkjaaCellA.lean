/- cell: Width, Last, Indent, Trim, Note of the program and of the reference, told in plain lists. -/
import Derived.Test.YtfkefelgjbfkjaaUtfE
import Derived.Test.YtfkefelgjbfkjaaUtfD
import Derived.Test.YtfkefelgjbfkjaaG22
import Derived.Test.YtfkefelgjbfkjaaG23
import Derived.Test.YtfkefelgjbfkjaaG24
import Derived.Test.YtfkefelgjbfkjaaG25
import Derived.Test.YtfkefelgjbfkjaaG26
import Derived.Test.YtfkefelgjbfkjaaG27
import Derived.Test.YtfkefelgjbfkjaaG28
import Derived.Test.YtfkefelgjbfkjaaG29
import Derived.Test.YtfkefelgjbfkjaaG30
set_option maxRecDepth 100000
set_option linter.unusedVariables false
set_option linter.unusedSimpArgs false
namespace Go.Proofs.Ytfkefelgjbfkjaa.Am
open Go

def Bytes (s : List Nat) : Prop := ∀ b ∈ s, b < 256
def CC (s : List Nat) : Nat := cpc s.length s
theorem nthS_get {s : List Nat} {i : Nat} (h : i < s.length) : nthS s (i : Int) = some ((s[i] : Nat) : Int) := by
  unfold nthS
  rw [if_pos (by omega)]
  simp [h]
theorem fw_pred {i : Nat} (h : i < 9223372036854775807) : fwrap .i64 (((i + 1 : Nat) : Int) - 1) = (i : Int) := by
  have : ((i + 1 : Nat) : Int) - 1 = (i : Int) := by omega
  rw [this, fwn _ (by omega)]
theorem fw_succ {i : Nat} (h : i < 9223372036854775807) : fwrap .i64 ((i : Int) + 1) = ((i + 1 : Nat) : Int) := by
  have : (i : Int) + 1 = ((i + 1 : Nat) : Int) := by omega
  rw [this, fwn _ (by omega)]
theorem sub_to {s : List Nat} {n : Nat} (h : n ≤ s.length) : subL s none (some (n : Int)) = some (s.take n) := by
  unfold subL bnd
  simp [h]
theorem sub_from {s : List Nat} {n : Nat} (h : n ≤ s.length) : subL s (some (n : Int)) none = some (s.drop n) := by
  unfold subL bnd
  simp [h]
theorem width_at {k : Nat} {s : List Nat} (hk : s.length + 6 ≤ k) (hs : Bytes s) (hl : s.length ≤ 140737488351232) : g22 k s = some ((CC s : Nat) : Int) := by
  unfold g22
  rw [(count_at hk hs hl).1]; rfl
theorem bytes_drop {s : List Nat} (hs : Bytes s) (n : Nat) : Bytes (s.drop n) := fun b hb => hs b (List.mem_of_mem_drop hb)
theorem bytes_app {a b : List Nat} (ha : Bytes a) (hb : Bytes b) : Bytes (a ++ b) := by
  intro x hx
  rcases List.mem_append.1 hx with h | h
  · exact ha x h
  · exact hb x h

/-! ### the last line -/
def lnl (s : List Nat) : Nat → Nat
  | 0 => 0
  | i + 1 => if s[i]? = some 10 then i + 1 else lnl s i
theorem lnl_le (s : List Nat) : ∀ i, lnl s i ≤ i
  | 0 => Nat.le_refl _
  | i + 1 => by
    unfold lnl; split
    · exact Nat.le_refl _
    · exact Nat.le_succ_of_le (lnl_le s i)
def lastAt (s : List Nat) (c : Int) (i : Nat) : Int := if lnl s i = 0 then fwrap .i64 (c + ((CC s : Nat) : Int)) else ((CC (s.drop (lnl s i)) : Nat) : Int)
theorem last_l {k : Nat} {s : List Nat} (c : Int) (hk : s.length + 6 ≤ k) (hs : Bytes s) (hl : s.length ≤ 140737488351232) : ∀ (i m : Nat), i ≤ s.length → g23_l3 k s c (i + 1 + m) ((i : Int) - 1) = some (lastAt s c i)
  | 0, m, h => by
    rw [show 0 + 1 + m = m + 1 from by omega, g23_l3_s, decide_eq_false (show ¬ (0 : Int) ≤ ((0 : Nat) : Int) - 1 by omega)]
    simp only [Bool.false_eq_true, if_false, width_at hk hs hl, Option.bind_some]
    rfl
  | i + 1, m, h => by
    rw [show i + 1 + 1 + m = (i + 1 + m) + 1 from by omega, g23_l3_s]
    have e : ((i + 1 : Nat) : Int) - 1 = (i : Int) := by omega
    have ih := last_l c hk hs hl i m (by omega)
    rw [e, decide_eq_true (show (0 : Int) ≤ (i : Int) by omega)]
    simp only [if_true, nthS_get (show i < s.length by omega), Option.bind_some]
    by_cases hb : s[i] = 10
    · have hb' : decide (((s[i] : Nat) : Int) = 10) = true := by rw [hb]; rfl
      have hL : lnl s (i + 1) = i + 1 := by unfold lnl; rw [if_pos]; simp [show i < s.length by omega, hb]
      rw [hb', fw_succ (by omega)]
      simp only [if_true, sub_from (show i + 1 ≤ s.length by omega), Option.bind_some]
      rw [width_at (by rw [List.length_drop]; omega) (bytes_drop hs _) (by rw [List.length_drop]; omega)]
      unfold lastAt
      rw [hL, if_neg (by omega)]
      rfl
    · have hb' : decide (((s[i] : Nat) : Int) = 10) = false := by simp; omega
      have hL : lnl s (i + 1) = lnl s i := by
        have : lnl s (i + 1) = if s[i]? = some 10 then i + 1 else lnl s i := rfl
        rw [this, if_neg]; simp [show i < s.length by omega, hb]
      have e4 : fwrap .i64 ((i : Int) - 1) = (i : Int) - 1 := fw64 _ (by omega) (by omega)
      rw [hb', e4]
      simp only [Bool.false_eq_true, if_false]
      rw [ih]; unfold lastAt; rw [hL]
theorem last_at {k : Nat} {s : List Nat} (c : Int) (hk : s.length + 6 ≤ k) (hs : Bytes s) (hl : s.length ≤ 140737488351232) : g23 k s c = some (lastAt s c s.length) := by
  unfold g23
  have := last_l c hk hs hl s.length (k - (s.length + 1)) (Nat.le_refl _)
  rw [show s.length + 1 + (k - (s.length + 1)) = k from by omega] at this
  rw [fw64 _ (by omega) (by omega)]
  exact this
theorem rlast_l {k : Nat} {s : List Nat} (c : Int) (hk : s.length + 6 ≤ k) (hs : Bytes s) (hl : s.length ≤ 140737488351232) : ∀ (i m : Nat), i ≤ s.length → g24_l3 k s c (i + 1 + m) (i : Int) = some (lastAt s c i)
  | 0, m, h => by
    rw [show 0 + 1 + m = m + 1 from by omega, g24_l3_s, decide_eq_false (show ¬ (0 : Int) < ((0 : Nat) : Int) by omega)]
    simp only [jn, Bool.false_eq_true, if_false, (count_at hk hs hl).2, Option.bind_some]
    rfl
  | i + 1, m, h => by
    rw [show i + 1 + 1 + m = (i + 1 + m) + 1 from by omega, g24_l3_s]
    have ih := rlast_l c hk hs hl i m (by omega)
    rw [decide_eq_true (show (0 : Int) < ((i + 1 : Nat) : Int) by omega), fw_pred (by omega)]
    simp only [jn, if_true, nthS_get (show i < s.length by omega), Option.bind_some, fw_pred (show i < 9223372036854775807 by omega)]
    by_cases hb : s[i] = 10
    · have hb' : decide (((s[i] : Nat) : Int) = 10) = true := by rw [hb]; rfl
      have hL : lnl s (i + 1) = i + 1 := by unfold lnl; rw [if_pos]; simp [show i < s.length by omega, hb]
      rw [hb', decide_eq_false (show ¬ ((i + 1 : Nat) : Int) = 0 by omega)]
      simp only [Bool.not_true, Bool.false_eq_true, if_false, sub_from (show i + 1 ≤ s.length by omega), Option.bind_some]
      rw [(count_at (by rw [List.length_drop]; omega) (bytes_drop hs _) (by rw [List.length_drop]; omega)).2]
      unfold lastAt
      rw [hL, if_neg (by omega)]
      rfl
    · have hb' : decide (((s[i] : Nat) : Int) = 10) = false := by simp; omega
      have hL : lnl s (i + 1) = lnl s i := by
        have : lnl s (i + 1) = if s[i]? = some 10 then i + 1 else lnl s i := rfl
        rw [this, if_neg]; simp [show i < s.length by omega, hb]
      rw [hb']
      simp only [Bool.not_false, if_true]
      rw [ih]; unfold lastAt; rw [hL]
theorem rlast_at {k : Nat} {s : List Nat} (c : Int) (hk : s.length + 6 ≤ k) (hs : Bytes s) (hl : s.length ≤ 140737488351232) : g24 k s c = some (lastAt s c s.length) := by
  unfold g24
  have := rlast_l c hk hs hl s.length (k - (s.length + 1)) (Nat.le_refl _)
  rw [show s.length + 1 + (k - (s.length + 1)) = k from by omega] at this
  exact this

/-! ### trimmed texts -/
def blankB (b : Nat) : Bool := decide (b = 32) || decide (b = 9) || decide (b = 13)
def tix (s : List Nat) : Nat → Nat
  | 0 => 0
  | i + 1 => if (match s[i]? with | some b => blankB b | none => false) then tix s i else i + 1
theorem tix_le (s : List Nat) : ∀ i, tix s i ≤ i
  | 0 => Nat.le_refl _
  | i + 1 => by
    have e : tix s (i + 1) = if (match s[i]? with | some b => blankB b | none => false) then tix s i else i + 1 := rfl
    rw [e]
    generalize (match s[i]? with | some b => blankB b | none => false) = b
    cases b
    · exact Nat.le_refl _
    · exact Nat.le_succ_of_le (tix_le s i)
theorem tix_step {s : List Nat} {i : Nat} (h : i < s.length) : tix s (i + 1) = if blankB s[i] then tix s i else i + 1 := by
  have e : tix s (i + 1) = if (match s[i]? with | some b => blankB b | none => false) then tix s i else i + 1 := rfl
  rw [e, List.getElem?_eq_getElem h]
def trimN (s : List Nat) : List Nat := s.take (tix s s.length)
theorem trim_l {k : Nat} {s : List Nat} (hl : s.length ≤ 140737488351232) : ∀ (i m : Nat), i ≤ s.length → g27_l2 k s (i + 1 + m) (i : Int) = some (s.take (tix s i))
  | 0, m, h => by
    rw [show 0 + 1 + m = m + 1 from by omega, g27_l2_s, decide_eq_false (show ¬ (0 : Int) < ((0 : Nat) : Int) by omega)]
    simp only [jn, Bool.false_eq_true, if_false, sub_to (Nat.zero_le s.length), Option.bind_some]
    rfl
  | i + 1, m, h => by
    rw [show i + 1 + 1 + m = (i + 1 + m) + 1 from by omega, g27_l2_s]
    have ih := trim_l (k := k) hl i m (by omega)
    have hi : i < s.length := by omega
    rw [decide_eq_true (show (0 : Int) < ((i + 1 : Nat) : Int) by omega), tix_step hi]
    simp only [jn, if_true, fw_pred (show i < 9223372036854775807 by omega), nthS_get hi, Option.bind_some]
    by_cases h1 : s[i] = 32
    · have : blankB s[i] = true := by rw [h1]; rfl
      rw [this, decide_eq_true (show ((s[i] : Nat) : Int) = 32 by omega)]
      simp only [if_true]; exact ih
    · rw [decide_eq_false (show ¬ ((s[i] : Nat) : Int) = 32 by omega)]
      simp only [Bool.false_eq_true, if_false]
      by_cases h2 : s[i] = 9
      · have : blankB s[i] = true := by rw [h2]; rfl
        rw [this, decide_eq_true (show ((s[i] : Nat) : Int) = 9 by omega)]
        simp only [if_true]; exact ih
      · rw [decide_eq_false (show ¬ ((s[i] : Nat) : Int) = 9 by omega)]
        simp only [Bool.false_eq_true, if_false]
        by_cases h3 : s[i] = 13
        · have : blankB s[i] = true := by rw [h3]; rfl
          rw [this, decide_eq_true (show ((s[i] : Nat) : Int) = 13 by omega)]
          simp only [if_true]; exact ih
        · have : blankB s[i] = false := by simp [blankB, h1, h2, h3]
          rw [this, decide_eq_false (show ¬ ((s[i] : Nat) : Int) = 13 by omega)]
          simp only [Bool.false_eq_true, if_false, sub_to h, Option.bind_some]
theorem trim_at {k : Nat} {s : List Nat} (hk : s.length + 1 ≤ k) (hl : s.length ≤ 140737488351232) : g27 k s = some (trimN s) := by
  unfold g27
  have := trim_l (k := k) hl s.length (k - (s.length + 1)) (Nat.le_refl _)
  rw [show s.length + 1 + (k - (s.length + 1)) = k from by omega] at this
  exact this
theorem rtrim_at {k : Nat} {s : List Nat} (hk : s.length + 1 ≤ k) (hl : s.length ≤ 140737488351232) : g28 k s = some (trimN s) := by
  have h := trim_at hk hl
  exact h

/-! ### comments -/
def h37 (s t : List Nat) : Bool := match s with | [] => false | b :: _ => decide (b = 37) && eqL t s
def noteN (s : List Nat) : Bool := !s.contains 10 && h37 s (trimN s)
theorem note_l {k : Nat} {s : List Nat} (hk : s.length + 1 ≤ k) (hl : s.length ≤ 140737488351232) : ∀ (d m i : Nat), i + d = s.length → g29_l2 k s (d + 1 + m) (i : Int) = some (!(s.drop i).contains 10 && h37 s (trimN s))
  | 0, m, i, h => by
    rw [show 0 + 1 + m = m + 1 from by omega, g29_l2_s, decide_eq_false (show ¬ (i : Int) < (s.length : Int) by omega), List.drop_eq_nil_of_le (show s.length ≤ i by omega)]
    cases s with
    | nil => rfl
    | cons b r =>
      have e0 : nthS (b :: r) 0 = some (b : Int) := rfl
      have e1 : eqL (b :: r) [] = false := rfl
      have e2 : decide ((b : Int) = 37) = decide (b = 37) := by
        by_cases hb : b = 37
        · rw [hb]; rfl
        · rw [decide_eq_false hb]; exact decide_eq_false (by omega)
      simp only [Bool.false_eq_true, if_false, e0, e1, e2, Bool.not_false, if_true, Option.bind_some, trim_at hk hl]
      by_cases hb : b = 37
      · simp [h37, hb]
      · simp [h37, hb]
  | d + 1, m, i, h => by
    rw [show d + 1 + 1 + m = (d + 1 + m) + 1 from by omega, g29_l2_s, decide_eq_true (show (i : Int) < (s.length : Int) by omega)]
    have hi : i < s.length := by omega
    have ih := note_l hk hl d m (i + 1) (by omega)
    rw [List.drop_eq_getElem_cons hi]
    simp only [if_true, nthS_get hi, Option.bind_some, fw_succ (show i < 9223372036854775807 by omega)]
    by_cases hb : s[i] = 10
    · rw [decide_eq_true (show ((s[i] : Nat) : Int) = 10 by omega), hb]
      simp
    · rw [decide_eq_false (show ¬ ((s[i] : Nat) : Int) = 10 by omega)]
      simp only [Bool.false_eq_true, if_false]
      rw [ih]
      have : (s[i] :: s.drop (i + 1)).contains 10 = (s.drop (i + 1)).contains 10 := by
        rw [List.contains_cons]
        have : ((10 : Nat) == s[i]) = false := by simp; omega
        rw [this, Bool.false_or]
      rw [this]
theorem note_at {k : Nat} {s : List Nat} (hk : s.length + 1 ≤ k) (hl : s.length ≤ 140737488351232) : g29 k s = some (noteN s) := by
  unfold g29
  have := note_l hk hl s.length (k - (s.length + 1)) 0 (by omega)
  rw [show s.length + 1 + (k - (s.length + 1)) = k from by omega] at this
  exact this
theorem rnote_at {k : Nat} {s : List Nat} (hk : s.length + 1 ≤ k) (hl : s.length ≤ 140737488351232) : g30 k s = some (noteN s) := by
  have h := note_at hk hl
  exact h
end Go.Proofs.Ytfkefelgjbfkjaa.Am
