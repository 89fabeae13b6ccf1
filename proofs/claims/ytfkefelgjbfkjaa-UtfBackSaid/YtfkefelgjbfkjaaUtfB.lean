/- utf: what stands at a place: the program's reading and the reference's tell what dec tells. -/
import Derived.Test.YtfkefelgjbfkjaaUtfA
set_option maxRecDepth 100000
set_option linter.unusedVariables false
set_option linter.unusedSimpArgs false
namespace Go.Proofs.Ytfkefelgjbfkjaa.Am
open Go

theorem pow64_le {i : Nat} (h : i ≤ 3) : 64 ^ i ≤ 262144 := by
  have : i = 0 ∨ i = 1 ∨ i = 2 ∨ i = 3 := by omega
  obtain rfl | rfl | rfl | rfl := this <;> decide
theorem pow64_step {y i b : Nat} (h : y < 64 ^ i) : y * 64 + b % 64 < 64 ^ (i + 1) := by
  rw [Nat.pow_succ]
  have := Nat.mod_lt b (by decide : 0 < 64)
  generalize 64 ^ i = P at h ⊢
  omega
/-! ### the loops -/
theorem next_l (k : Nat) (s : List Nat) (hs : ∀ b ∈ s, b < 256) (hl : s.length ≤ 140737488351232) (at' n q : Nat) (hn : n ≤ 4) (hat : at' + n ≤ s.length) : ∀ (d m i y : Nat), i + d = n → 1 ≤ i → y < 64 ^ i →
    g13_l5 k s (at' : Int) ((n : Int), (q : Int)) (d + 1 + m) (y : Int) (i : Int) = some (fitN n (moreN d y (s.drop (at' + i))))
  | 0, m, i, y, hi, h1, hy => by
    rw [show 0 + 1 + m = m + 1 from by omega, g13_l5_s]
    have e1 : decide ((i : Int) < (n : Int)) = false := by simp; omega
    simp only [e1, least_at hn, cp_at, moreN, fitN, Option.bind_some, jn]
    by_cases h : leastN n ≤ y
    · have e2 : decide ((y : Int) < ((leastN n : Nat) : Int)) = false := by simp; omega
      cases hc : cpN y <;> simp [e2, h, hc]
    · have e2 : decide ((y : Int) < ((leastN n : Nat) : Int)) = true := by simp; omega
      simp [e2, h]
  | d + 1, m, i, y, hi, h1, hy => by
    rw [show d + 1 + 1 + m = (d + 1 + m) + 1 from by omega, g13_l5_s]
    have e1 : decide ((i : Int) < (n : Int)) = true := by simp; omega
    obtain ⟨b, r, hb, hr, hm⟩ := drop_cons (s := s) (i := at' + i) (by omega)
    have e2 : fwrap .i64 ((at' : Int) + (i : Int)) = ((at' + i : Nat) : Int) := by
      have : (at' : Int) + (i : Int) = ((at' + i : Nat) : Int) := by push_cast; rfl
      rw [this, fwn _ (by omega)]
    obtain ⟨b63, -, -, -, -⟩ := byte_ok (hs b hm)
    have hi4 : i ≤ 3 := by omega
    have a1 : i + 1 + d = n := by rw [← hi]; exact Nat.add_right_comm i 1 d
    have a2 : 1 ≤ i + 1 := Nat.le_add_left 1 i
    have a3 : y * 64 + b % 64 < 64 ^ (i + 1) := pow64_step hy
    have hp : 64 ^ i ≤ 262144 := pow64_le hi4
    have e3 : fwrap .i64 ((i : Int) + 1) = ((i + 1 : Nat) : Int) := by
      have : (i : Int) + 1 = ((i + 1 : Nat) : Int) := by push_cast; rfl
      rw [this, fwn _ (by omega)]
    have p6 : (2 : Nat) ^ 6 = 64 := rfl
    simp only [e1, e2, nthS_at hb, Option.bind_some, shrC_nat, p6, b63, if_true]
    by_cases h : b / 64 = 2
    · have e4 : decide (((b / 64 : Nat) : Int) = 2) = true := by simp; omega
      have ih := next_l k s hs hl at' n q hn hat d m (i + 1) (y * 64 + b % 64) a1 a2 a3
      rw [e4, fwn _ (by omega : b % 64 ≤ 9223372036854775807), or_add _ _ (by omega) (by omega), e3, ih, hb, show at' + (i + 1) = at' + i + 1 from by omega, hr]
      simp [moreN, h]
    · have e4 : decide (((b / 64 : Nat) : Int) = 2) = false := by simp; omega
      rw [e4, hb]
      simp [moreN, h, fitN]
theorem rnext_l (k : Nat) (s : List Nat) (hs : ∀ b ∈ s, b < 256) (hl : s.length ≤ 140737488351232) (at' n q : Nat) (hn : n ≤ 4) (hat : at' + n ≤ s.length) : ∀ (d m i y : Nat), i + d = n → 1 ≤ i → y < 64 ^ i →
    g14_l9 k s (at' : Int) ((q : Int), (n : Int), ((leastN n : Nat) : Int)) (d + 1 + m) (y : Int) (i : Int) = some (fitN n (moreN d y (s.drop (at' + i))))
  | 0, m, i, y, hi, h1, hy => by
    rw [show 0 + 1 + m = m + 1 from by omega, g14_l9_s]
    have e1 : decide ((i : Int) < (n : Int)) = false := by simp; omega
    simp only [e1, point_at, moreN, fitN, Option.bind_some, jn]
    by_cases h : leastN n ≤ y
    · have e2 : decide ((y : Int) < ((leastN n : Nat) : Int)) = false := by simp; omega
      cases hc : cpN y <;> simp [e2, h, hc]
    · have e2 : decide ((y : Int) < ((leastN n : Nat) : Int)) = true := by simp; omega
      simp [e2, h]
  | d + 1, m, i, y, hi, h1, hy => by
    rw [show d + 1 + 1 + m = (d + 1 + m) + 1 from by omega, g14_l9_s]
    have e1 : decide ((i : Int) < (n : Int)) = true := by simp; omega
    obtain ⟨b, r, hb, hr, hm⟩ := drop_cons (s := s) (i := at' + i) (by omega)
    have e2 : fwrap .i64 ((at' : Int) + (i : Int)) = ((at' + i : Nat) : Int) := by
      have : (at' : Int) + (i : Int) = ((at' + i : Nat) : Int) := by push_cast; rfl
      rw [this, fwn _ (by omega)]
    obtain ⟨b63, -, -, -, b192⟩ := byte_ok (hs b hm)
    have hi4 : i ≤ 3 := by omega
    have a1 : i + 1 + d = n := by rw [← hi]; exact Nat.add_right_comm i 1 d
    have a2 : 1 ≤ i + 1 := Nat.le_add_left 1 i
    have a3 : y * 64 + b % 64 < 64 ^ (i + 1) := pow64_step hy
    have hp : 64 ^ i ≤ 262144 := pow64_le hi4
    have e3 : fwrap .i64 ((i : Int) + 1) = ((i + 1 : Nat) : Int) := by
      have : (i : Int) + 1 = ((i + 1 : Nat) : Int) := by push_cast; rfl
      rw [this, fwn _ (by omega)]
    have e5 : fwrap .i64 (fwrap .i64 ((y : Int) * 64) + ((b % 64 : Nat) : Int)) = ((y * 64 + b % 64 : Nat) : Int) := by
      have : (y : Int) * 64 = ((y * 64 : Nat) : Int) := by push_cast; rfl
      rw [this, fwn _ (by omega)]
      have : ((y * 64 : Nat) : Int) + ((b % 64 : Nat) : Int) = ((y * 64 + b % 64 : Nat) : Int) := by push_cast; rfl
      rw [this, fwn _ (by omega)]
    simp only [e1, e2, nthS_at hb, Option.bind_some, b63, if_true]
    by_cases h : b / 64 = 2
    · have e4 : decide (andI .u8 (b : Int) 192 = 128) = true := decide_eq_true (b192.2 h)
      have ih := rnext_l k s hs hl at' n q hn hat d m (i + 1) (y * 64 + b % 64) a1 a2 a3
      rw [e4, fwn _ (by omega : b % 64 ≤ 9223372036854775807), e5, e3, ih, hb, show at' + (i + 1) = at' + i + 1 from by omega, hr]
      simp [moreN, h]
    · have e4 : decide (andI .u8 (b : Int) 192 = 128) = false := decide_eq_false (fun w => h (b192.1 w))
      rw [e4, hb]
      simp [moreN, h, fitN]
end Go.Proofs.Ytfkefelgjbfkjaa.Am
