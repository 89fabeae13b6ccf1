/- utf: a code point's bytes are read as it; a byte that can't stand makes a text not valid. -/
import Derived.Test.YtfkefelgjbfkjaaUtfE
import Derived.Test.YtfkefelgjbfkjaaUtfD
set_option maxRecDepth 100000
set_option linter.unusedVariables false
set_option linter.unusedSimpArgs false
namespace Go.Proofs.Ytfkefelgjbfkjaa.Am
open Go

theorem enc_dec {c : Nat} (h : cpN c = true) (r : List Nat) : dec (enc c ++ r) = ((c : Int), ((enc c).length : Int)) := by
  have hle := cp_le h
  have hd : ∀ c r, dec (c :: r) = if (leadN c).1 = 0 then (-1, 1) else fitN (leadN c).1 (moreN ((leadN c).1 - 1) (leadN c).2 r) := fun _ _ => rfl
  have m1 : ∀ n c b r, moreN (n + 1) c (b :: r) = if b / 64 = 2 then moreN n (c * 64 + b % 64) r else none := fun _ _ _ _ => rfl
  have m0 : ∀ c r, moreN 0 c r = some c := fun _ _ => rfl
  unfold enc
  by_cases h1 : c < 128
  · rw [if_pos h1]
    have hL : leadN c = (1, c) := by unfold leadN; rw [if_pos h1]
    rw [List.cons_append, hd, hL]
    show fitN 1 (some c) = _
    unfold fitN
    simp only []
    rw [if_pos ⟨by simp [leastN], h⟩]
    rfl
  · rw [if_neg h1]
    by_cases h2 : c < 2048
    · rw [if_pos h2]
      have hL : leadN (192 + c / 64) = (2, c / 64) := by
        unfold leadN; rw [if_neg (by omega), if_pos (by omega)]
        rw [show (192 + c / 64) % 32 = c / 64 from by omega]
      rw [List.cons_append, hd, hL]
      show fitN 2 (moreN 1 (c / 64) ([128 + c % 64] ++ r)) = _
      rw [List.cons_append, m1, if_pos (by omega), m0, show c / 64 * 64 + (128 + c % 64) % 64 = c from by omega]
      unfold fitN
      simp only []
      rw [if_pos ⟨by simp [leastN]; omega, h⟩]
      rfl
    · rw [if_neg h2]
      by_cases h3 : c < 65536
      · rw [if_pos h3]
        have hL : leadN (224 + c / 4096) = (3, c / 4096) := by
          unfold leadN; rw [if_neg (by omega), if_neg (by omega), if_pos (by omega)]
          rw [show (224 + c / 4096) % 16 = c / 4096 from by omega]
        rw [List.cons_append, hd, hL]
        show fitN 3 (moreN 2 (c / 4096) ([128 + c / 64 % 64, 128 + c % 64] ++ r)) = _
        rw [List.cons_append, m1, if_pos (by omega), List.cons_append, m1, if_pos (by omega), m0, show (c / 4096 * 64 + (128 + c / 64 % 64) % 64) * 64 + (128 + c % 64) % 64 = c from by omega]
        unfold fitN
        simp only []
        rw [if_pos ⟨by simp [leastN]; omega, h⟩]
        rfl
      · rw [if_neg h3]
        have hL : leadN (240 + c / 262144) = (4, c / 262144) := by
          unfold leadN; rw [if_neg (by omega), if_neg (by omega), if_neg (by omega), if_pos (by omega)]
          rw [show (240 + c / 262144) % 8 = c / 262144 from by omega]
        rw [List.cons_append, hd, hL]
        show fitN 4 (moreN 3 (c / 262144) ([128 + c / 4096 % 64, 128 + c / 64 % 64, 128 + c % 64] ++ r)) = _
        rw [List.cons_append, m1, if_pos (by omega), List.cons_append, m1, if_pos (by omega), List.cons_append, m1, if_pos (by omega), m0, show ((c / 262144 * 64 + (128 + c / 4096 % 64) % 64) * 64 + (128 + c / 64 % 64) % 64) * 64 + (128 + c % 64) % 64 = c from by omega]
        unfold fitN
        simp only []
        rw [if_pos ⟨by simp [leastN]; omega, h⟩]
        rfl
theorem enc_len (c : Nat) : 1 ≤ (enc c).length ∧ (enc c).length ≤ 4 := by
  unfold enc; repeat' split
  all_goals simp
theorem enc_bytes {c : Nat} (h : cpN c = true) : ∀ b ∈ enc c, b < 256 := by
  have hle := cp_le h
  intro b hb
  unfold enc at hb
  split at hb
  · simp at hb; omega
  · split at hb
    · simp at hb; omega
    · split at hb
      · simp at hb; omega
      · simp at hb; omega
/-- Texts of code points. -/
def encs (l : List Nat) : List Nat := l.flatMap enc
theorem encs_vld : ∀ (l : List Nat), (∀ c ∈ l, cpN c = true) → vld (encs l).length (encs l) = true ∧ cpc (encs l).length (encs l) = l.length
  | [], _ => ⟨rfl, rfl⟩
  | c :: l, h => by
    have ih := encs_vld l (fun x hx => h x (by simp [hx]))
    have hc := h c (by simp)
    have e : encs (c :: l) = enc c ++ encs l := rfl
    have el := enc_len c
    have hne : enc c ++ encs l ≠ [] := by
      intro w
      have := congrArg List.length w
      simp at this
      have := el.1
      simp_all
    obtain ⟨n, hn⟩ : ∃ n, (enc c ++ encs l).length = n + 1 := ⟨(enc c ++ encs l).length - 1, by rw [List.length_append]; omega⟩
    rw [e, hn, vld_cons hne, cpc_cons hne, enc_dec hc]
    simp only [Int.toNat_natCast]
    rw [if_neg (by omega), List.drop_left]
    have hl : (encs l).length ≤ n := by rw [List.length_append] at hn; omega
    rw [vld_more n (encs l).length _ hl (Nat.le_refl _), cpc_more n (encs l).length _ hl (Nat.le_refl _), ih.1, ih.2]
    exact ⟨rfl, rfl⟩
theorem moreN_cont' : ∀ (n c : Nat) (r : List Nat) (y : Nat), moreN n c r = some y → ∀ j, j < n → ∃ b : Nat, r[j]? = some b ∧ b / 64 = 2
  | 0, _, _, _, _, j, hj => by omega
  | n + 1, c, [], y, h, j, hj => by cases h
  | n + 1, c, x :: r, y, h, j, hj => by
    have e : moreN (n + 1) c (x :: r) = if x / 64 = 2 then moreN n (c * 64 + x % 64) r else none := rfl
    rw [e] at h
    split at h
    · cases j with
      | zero => exact ⟨x, rfl, by assumption⟩
      | succ j => exact moreN_cont' n _ r y h j (by omega)
    · cases h
theorem dec_255 (r : List Nat) : dec (255 :: r) = (-1, 1) := rfl
theorem leadN_byte {b : Nat} (h : (leadN b).1 ≠ 0) : b ≠ 255 := by
  intro e; subst e; exact h rfl
/-- In a valid text no byte is 255. -/
theorem vld_no255 : ∀ (n : Nat) (s : List Nat) (i : Nat), s.length ≤ n → vld n s = true → s[i]? ≠ some 255
  | 0, s, i, h, hv => by
    have : s = [] := List.eq_nil_of_length_eq_zero (by omega)
    subst this
    simp
  | n + 1, s, i, h, hv => by
    by_cases hs : s = []
    · subst hs; simp
    · intro hi
      obtain ⟨q, n1, n2, n3, n4, n5⟩ := dec_size hs
      rw [vld_cons hs] at hv
      by_cases hneg : (dec s).1 < 0
      · rw [if_pos hneg] at hv; cases hv
      · rw [if_neg hneg, n1, Int.toNat_natCast] at hv
        by_cases hq : i < q
        · by_cases h0 : i = 0
          · subst h0
            cases s with
            | nil => exact hs rfl
            | cons c r =>
              simp at hi
              subst hi
              rw [dec_255] at hneg
              exact hneg (by decide)
          · cases s with
            | nil => exact hs rfl
            | cons c r =>
              have hd : dec (c :: r) = if (leadN c).1 = 0 then (-1, 1) else fitN (leadN c).1 (moreN ((leadN c).1 - 1) (leadN c).2 r) := rfl
              rw [hd] at hneg n1
              by_cases l0 : (leadN c).1 = 0
              · rw [if_pos l0] at hneg; exact hneg (by decide)
              · rw [if_neg l0] at hneg n1
                cases hm : moreN ((leadN c).1 - 1) (leadN c).2 r with
                | none => rw [hm] at hneg; exact hneg (show ((-1 : Int), (1 : Int)).1 < 0 by decide)
                | some y =>
                  rw [hm] at hneg n1
                  simp only [fitN] at hneg n1
                  split at n1
                  · have hql : q = (leadN c).1 := by simp at n1; omega
                    obtain ⟨j, rfl⟩ : ∃ j, i = j + 1 := ⟨i - 1, by omega⟩
                    obtain ⟨b, e1, e2⟩ := moreN_cont' _ _ _ _ hm j (by omega)
                    rw [List.getElem?_cons_succ, e1] at hi
                    cases hi
                    omega
                  · rename_i hc
                    rw [if_neg hc] at hneg
                    exact hneg (show ((-1 : Int), (1 : Int)).1 < 0 by decide)
        · have hlen : (s.drop q).length ≤ n := by rw [List.length_drop]; clear n1; omega
          have := vld_no255 n (s.drop q) (i - q) hlen hv
          rw [List.getElem?_drop, show q + (i - q) = i from by clear n1; omega] at this
          exact this hi
/-- A code point's bytes without the last one are none. -/
theorem enc_cut {c : Nat} (h : cpN c = true) (h1 : 128 ≤ c) : vld ((enc c).dropLast).length (enc c).dropLast = false := by
  have hle := cp_le h
  have hd : ∀ c r, dec (c :: r) = if (leadN c).1 = 0 then (-1, 1) else fitN (leadN c).1 (moreN ((leadN c).1 - 1) (leadN c).2 r) := fun _ _ => rfl
  have m1 : ∀ n c b r, moreN (n + 1) c (b :: r) = if b / 64 = 2 then moreN n (c * 64 + b % 64) r else none := fun _ _ _ _ => rfl
  have key : ∀ b r, (leadN b).1 ≠ 0 → r.length < (leadN b).1 - 1 → vld (b :: r).length (b :: r) = false := by
    intro b r h0 hr
    rw [List.length_cons, vld_cons (by simp), hd, if_neg h0, moreN_none _ _ _ hr]
    rfl
  unfold enc
  rw [if_neg (by omega)]
  by_cases h2 : c < 2048
  · rw [if_pos h2]
    have hL : (leadN (192 + c / 64)).1 = 2 := by
      unfold leadN; rw [if_neg (by omega), if_pos (by omega)]
    exact key _ [] (by omega) (by rw [hL]; decide)
  · rw [if_neg h2]
    by_cases h3 : c < 65536
    · rw [if_pos h3]
      have hL : (leadN (224 + c / 4096)).1 = 3 := by
        unfold leadN; rw [if_neg (by omega), if_neg (by omega), if_pos (by omega)]
      exact key _ [_] (by omega) (by rw [hL]; simp)
    · rw [if_neg h3]
      have hL : (leadN (240 + c / 262144)).1 = 4 := by
        unfold leadN; rw [if_neg (by omega), if_neg (by omega), if_neg (by omega), if_pos (by omega)]
      exact key _ [_, _] (by omega) (by rw [hL]; simp)
end Go.Proofs.Ytfkefelgjbfkjaa.Am
