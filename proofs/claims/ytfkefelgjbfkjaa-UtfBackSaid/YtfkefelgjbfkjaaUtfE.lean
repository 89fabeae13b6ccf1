/- utf: two texts one behind the other (vld, cpc). -/
import Derived.Test.YtfkefelgjbfkjaaUtfC
set_option maxRecDepth 100000
set_option linter.unusedVariables false
set_option linter.unusedSimpArgs false
namespace Go.Proofs.Ytfkefelgjbfkjaa.Am
open Go

theorem moreN_app : ∀ (n c : Nat) (a b : List Nat) (y : Nat), moreN n c a = some y → moreN n c (a ++ b) = some y
  | 0, c, a, b, y, h => h
  | n + 1, c, [], b, y, h => by cases h
  | n + 1, c, x :: a, b, y, h => by
    have e1 : moreN (n + 1) c (x :: a) = if x / 64 = 2 then moreN n (c * 64 + x % 64) a else none := rfl
    have e2 : moreN (n + 1) c (x :: a ++ b) = if x / 64 = 2 then moreN n (c * 64 + x % 64) (a ++ b) else none := rfl
    rw [e1] at h; rw [e2]
    split at h
    · rw [if_pos (by assumption)]; exact moreN_app n _ a b y h
    · cases h
/-- What begins with a code point begins with it whatever stands behind. -/
theorem dec_app {a : List Nat} (ha : a ≠ []) (h : ¬ (dec a).1 < 0) (b : List Nat) : dec (a ++ b) = dec a := by
  cases a with
  | nil => exact absurd rfl ha
  | cons c r =>
    have hd : ∀ r, dec (c :: r) = if (leadN c).1 = 0 then (-1, 1) else fitN (leadN c).1 (moreN ((leadN c).1 - 1) (leadN c).2 r) := fun _ => rfl
    rw [List.cons_append, hd, hd]
    rw [hd] at h
    by_cases h0 : (leadN c).1 = 0
    · rw [if_pos h0] at h; exact absurd (by decide) h
    · rw [if_neg h0] at h; rw [if_neg h0, if_neg h0]
      cases hm : moreN ((leadN c).1 - 1) (leadN c).2 r with
      | none => rw [hm] at h; exact absurd (show ((-1 : Int), (1 : Int)).1 < 0 by decide) h
      | some y => rw [moreN_app _ _ _ _ _ hm]
theorem vld_nil (n : Nat) : vld n [] = true := by cases n <;> rfl
theorem cpc_nil (n : Nat) : cpc n [] = 0 := by cases n <;> rfl
theorem vld_cons {n : Nat} {s : List Nat} (h : s ≠ []) : vld (n + 1) s = if (dec s).1 < 0 then false else vld n (s.drop (dec s).2.toNat) := by
  cases s with
  | nil => exact absurd rfl h
  | cons c r => rfl
theorem cpc_cons {n : Nat} {s : List Nat} (h : s ≠ []) : cpc (n + 1) s = cpc n (s.drop (dec s).2.toNat) + 1 := by
  cases s with
  | nil => exact absurd rfl h
  | cons c r => rfl
/-- More fuel tells the same. -/
theorem vld_more : ∀ (n m : Nat) (s : List Nat), s.length ≤ n → s.length ≤ m → vld n s = vld m s
  | 0, m, s, h1, h2 => by
    have : s = [] := List.eq_nil_of_length_eq_zero (by omega)
    rw [this, vld_nil, vld_nil]
  | n + 1, 0, s, h1, h2 => by
    have : s = [] := List.eq_nil_of_length_eq_zero (by omega)
    rw [this, vld_nil, vld_nil]
  | n + 1, m + 1, s, h1, h2 => by
    by_cases hs : s = []
    · rw [hs, vld_nil, vld_nil]
    · obtain ⟨q, n1, n2, n3, n4, n5⟩ := dec_size hs
      rw [vld_cons hs, vld_cons hs, n1]
      have := vld_more n m (s.drop q) (by rw [List.length_drop]; clear n1; omega) (by rw [List.length_drop]; clear n1; omega)
      simp only [Int.toNat_natCast]
      rw [this]
theorem cpc_more : ∀ (n m : Nat) (s : List Nat), s.length ≤ n → s.length ≤ m → cpc n s = cpc m s
  | 0, m, s, h1, h2 => by
    have : s = [] := List.eq_nil_of_length_eq_zero (by omega)
    rw [this, cpc_nil, cpc_nil]
  | n + 1, 0, s, h1, h2 => by
    have : s = [] := List.eq_nil_of_length_eq_zero (by omega)
    rw [this, cpc_nil, cpc_nil]
  | n + 1, m + 1, s, h1, h2 => by
    by_cases hs : s = []
    · rw [hs, cpc_nil, cpc_nil]
    · obtain ⟨q, n1, n2, n3, n4, n5⟩ := dec_size hs
      rw [cpc_cons hs, cpc_cons hs, n1]
      have := cpc_more n m (s.drop q) (by rw [List.length_drop]; clear n1; omega) (by rw [List.length_drop]; clear n1; omega)
      simp only [Int.toNat_natCast]
      rw [this]
theorem join_at : ∀ (n : Nat) (a b : List Nat), a.length ≤ n → vld n a = true → vld (n + b.length) (a ++ b) = vld b.length b ∧ cpc (n + b.length) (a ++ b) = cpc n a + cpc b.length b
  | 0, a, b, h, hv => by
    have : a = [] := List.eq_nil_of_length_eq_zero (by omega)
    subst this
    simp [cpc_nil]
  | n + 1, a, b, h, hv => by
    by_cases ha : a = []
    · subst ha
      rw [List.nil_append, cpc_nil, Nat.zero_add]
      exact ⟨vld_more _ _ _ (by omega) (by omega), cpc_more _ _ _ (by omega) (by omega)⟩
    · obtain ⟨q, n1, n2, n3, n4, n5⟩ := dec_size ha
      rw [vld_cons ha] at hv
      by_cases hneg : (dec a).1 < 0
      · rw [if_pos hneg] at hv; cases hv
      · rw [if_neg hneg, n1, Int.toNat_natCast] at hv
        have hab : a ++ b ≠ [] := by simp [ha]
        have hd := dec_app ha hneg b
        rw [show n + 1 + b.length = (n + b.length) + 1 from by clear n1; omega, vld_cons hab, cpc_cons hab, hd, if_neg hneg, n1, Int.toNat_natCast, List.drop_append_of_le_length n4, cpc_cons ha, n1, Int.toNat_natCast]
        have ih := join_at n (a.drop q) b (by rw [List.length_drop]; clear n1; omega) hv
        rw [ih.1, ih.2]
        exact ⟨rfl, by clear n1; omega⟩
/-- A valid text ahead: what stands behind is read as it is alone. -/
theorem join_all {a b : List Nat} (hv : vld a.length a = true) : vld (a ++ b).length (a ++ b) = vld b.length b ∧ cpc (a ++ b).length (a ++ b) = cpc a.length a + cpc b.length b := by
  have := join_at a.length a b (Nat.le_refl _) hv
  rw [List.length_append]
  exact this
theorem cpc_le : ∀ (n : Nat) (s : List Nat), s.length ≤ n → cpc n s ≤ s.length
  | 0, s, h => by
    have : s = [] := List.eq_nil_of_length_eq_zero (by omega)
    rw [this, cpc_nil]; exact Nat.zero_le _
  | n + 1, s, h => by
    by_cases hs : s = []
    · rw [hs, cpc_nil]; exact Nat.zero_le _
    · obtain ⟨q, n1, n2, n3, n4, n5⟩ := dec_size hs
      rw [cpc_cons hs, n1, Int.toNat_natCast]
      have := cpc_le n (s.drop q) (by rw [List.length_drop]; clear n1; omega)
      rw [List.length_drop] at this
      clear n1; omega
end Go.Proofs.Ytfkefelgjbfkjaa.Am
