/- utf: utf.Put and galleyref1.Put tell enc. -/
import Derived.Test.YtfkefelgjbfkjaaUtfC
import Derived.Test.YtfkefelgjbfkjaaG19
import Derived.Test.YtfkefelgjbfkjaaG20
set_option maxRecDepth 100000
set_option linter.unusedVariables false
set_option linter.unusedSimpArgs false
namespace Go.Proofs.Ytfkefelgjbfkjaa.Am
open Go

theorem fwu8 (x : Nat) : fwrap .u8 (x : Int) = ((x % 256 : Nat) : Int) := by
  rw [fwrap_eq]; simp [IntKind.wrap, IntKind.bits, IntKind.signed]
theorem toS_nat : ∀ l : List Nat, (∀ b ∈ l, b < 256) → toS (l.map fun (b : Nat) => (b : Int)) = some l
  | [], _ => rfl
  | b :: l, h => by
    have hb := h b (by simp)
    simp only [List.map_cons, toS, toS_nat l (fun x hx => h x (by simp [hx]))]
    rw [if_pos (by omega)]
    simp
def orOk (b : Nat) : Bool := decide (orI .u8 (b : Int) 128 = ((128 + b : Nat) : Int)) && decide (orI .u8 128 (b : Int) = ((128 + b : Nat) : Int)) && (decide (32 ≤ b) || decide (orI .u8 (b : Int) 192 = ((192 + b : Nat) : Int)) && decide (orI .u8 192 (b : Int) = ((192 + b : Nat) : Int))) && (decide (16 ≤ b) || decide (orI .u8 (b : Int) 224 = ((224 + b : Nat) : Int)) && decide (orI .u8 224 (b : Int) = ((224 + b : Nat) : Int))) && (decide (8 ≤ b) || decide (orI .u8 (b : Int) 240 = ((240 + b : Nat) : Int)) && decide (orI .u8 240 (b : Int) = ((240 + b : Nat) : Int)))
theorem orOk_all : ((List.range 64).all orOk) = true := by decide +kernel
theorem or_ok {b : Nat} (h : b < 64) : orOk b = true := List.all_eq_true.1 orOk_all b (List.mem_range.2 h)
theorem or128 {b : Nat} (h : b < 64) : orI .u8 (b : Int) 128 = ((128 + b : Nat) : Int) ∧ orI .u8 128 (b : Int) = ((128 + b : Nat) : Int) := by
  have w := or_ok h
  simp only [orOk, Bool.and_eq_true, decide_eq_true_eq] at w
  exact ⟨w.1.1.1.1, w.1.1.1.2⟩
theorem or192 {b : Nat} (h : b < 32) : orI .u8 (b : Int) 192 = ((192 + b : Nat) : Int) ∧ orI .u8 192 (b : Int) = ((192 + b : Nat) : Int) := by
  have w := or_ok (b := b) (by omega)
  simp only [orOk, Bool.and_eq_true, Bool.or_eq_true, decide_eq_true_eq] at w
  rcases w.1.1.2 with h | h
  · omega
  · exact h
theorem or224 {b : Nat} (h : b < 16) : orI .u8 (b : Int) 224 = ((224 + b : Nat) : Int) ∧ orI .u8 224 (b : Int) = ((224 + b : Nat) : Int) := by
  have w := or_ok (b := b) (by omega)
  simp only [orOk, Bool.and_eq_true, Bool.or_eq_true, decide_eq_true_eq] at w
  rcases w.1.2 with h | h
  · omega
  · exact h
theorem or240 {b : Nat} (h : b < 8) : orI .u8 (b : Int) 240 = ((240 + b : Nat) : Int) ∧ orI .u8 240 (b : Int) = ((240 + b : Nat) : Int) := by
  have w := or_ok (b := b) (by omega)
  simp only [orOk, Bool.and_eq_true, Bool.or_eq_true, decide_eq_true_eq] at w
  rcases w.2 with h | h
  · omega
  · exact h
/-- A code point's bytes. -/
def enc (c : Nat) : List Nat := if c < 128 then [c] else if c < 2048 then [192 + c / 64, 128 + c % 64] else if c < 65536 then [224 + c / 4096, 128 + c / 64 % 64, 128 + c % 64] else [240 + c / 262144, 128 + c / 4096 % 64, 128 + c / 64 % 64, 128 + c % 64]
def put (n : Int) : List Nat := if 0 ≤ n ∧ cpN n.toNat = true then enc n.toNat else []
theorem put_neg {n : Int} (h : n < 0) : put n = [] := by
  unfold put; exact if_neg (fun w => by omega)
theorem put_cp {c : Nat} (h : cpN c = true) : put (c : Int) = enc c := by
  unfold put; rw [Int.toNat_natCast]; exact if_pos ⟨by omega, h⟩
theorem put_no {c : Nat} (h : cpN c = false) : put (c : Int) = [] := by
  unfold put; rw [Int.toNat_natCast]; exact if_neg (fun w => by rw [h] at w; exact absurd w.2 (by decide))
theorem cp_neg {k : Nat} {n : Int} (h : n < 0) : g33 k n = some false ∧ g34 k n = some false := by
  unfold g33 g34
  rw [decide_eq_false (show ¬ (0 : Int) ≤ n by omega)]
  exact ⟨rfl, rfl⟩
theorem cp_le {c : Nat} (h : cpN c = true) : c ≤ 1114111 := by
  unfold cpN at h
  simp at h
  exact h.1
theorem rput_at {k : Nat} (n : Int) : g20 k n = some (put n) := by
  unfold g20
  by_cases hn : n < 0
  · rw [put_neg hn, (cp_neg (k := k) hn).2]; rfl
  · obtain ⟨c, rfl⟩ : ∃ c : Nat, n = (c : Int) := ⟨n.toNat, by omega⟩
    rw [point_at, Option.bind_some]
    by_cases hcp : cpN c = true
    · have hle := cp_le hcp
      have a63 : ∀ x : Nat, andI .i64 (x : Int) 63 = ((x % 64 : Nat) : Int) := fun x => andI64 (x : Int) 6 (by decide)
      rw [put_cp hcp, hcp]
      simp only [shrC_nat, a63, fwu8, Bool.not_true, Bool.false_eq_true, if_false]
      unfold enc
      by_cases h1 : c < 128
      · rw [decide_eq_true (show (c : Int) < 128 by omega), if_pos h1, Nat.mod_eq_of_lt (by omega)]
        simp only [if_true]
        have := toS_nat [c] (by intro b hb; simp at hb; omega)
        simp only [List.map_cons, List.map_nil] at this
        rw [this]; rfl
      · rw [decide_eq_false (show ¬ (c : Int) < 128 by omega), if_neg h1]
        simp only [Bool.false_eq_true, if_false]
        by_cases h2 : c < 2048
        · rw [decide_eq_true (show (c : Int) < 2048 by omega), if_pos h2, show c / 2 ^ 6 % 256 = c / 64 from by omega, show c % 64 % 256 = c % 64 from by omega, (or192 (by omega)).2, (or128 (by omega)).2]
          simp only [if_true]
          have := toS_nat [192 + c / 64, 128 + c % 64] (by intro b hb; simp at hb; omega)
          simp only [List.map_cons, List.map_nil] at this
          rw [this]; rfl
        · rw [decide_eq_false (show ¬ (c : Int) < 2048 by omega), if_neg h2]
          simp only [Bool.false_eq_true, if_false]
          by_cases h3 : c < 65536
          · rw [decide_eq_true (show (c : Int) < 65536 by omega), if_pos h3, show c / 2 ^ 12 % 256 = c / 4096 from by omega, show c / 2 ^ 6 % 64 % 256 = c / 64 % 64 from by omega, show c % 64 % 256 = c % 64 from by omega, (or224 (by omega)).2, (or128 (b := c / 64 % 64) (by omega)).2, (or128 (b := c % 64) (by omega)).2]
            simp only [if_true]
            have := toS_nat [224 + c / 4096, 128 + c / 64 % 64, 128 + c % 64] (by intro b hb; simp at hb; omega)
            simp only [List.map_cons, List.map_nil] at this
            rw [this]; rfl
          · rw [decide_eq_false (show ¬ (c : Int) < 65536 by omega), if_neg h3, show c / 2 ^ 18 % 256 = c / 262144 from by omega, show c / 2 ^ 12 % 64 % 256 = c / 4096 % 64 from by omega, show c / 2 ^ 6 % 64 % 256 = c / 64 % 64 from by omega, show c % 64 % 256 = c % 64 from by omega, (or240 (by omega)).2, (or128 (b := c / 4096 % 64) (by omega)).2, (or128 (b := c / 64 % 64) (by omega)).2, (or128 (b := c % 64) (by omega)).2]
            simp only [Bool.false_eq_true, if_false]
            have := toS_nat [240 + c / 262144, 128 + c / 4096 % 64, 128 + c / 64 % 64, 128 + c % 64] (by intro b hb; simp at hb; omega)
            simp only [List.map_cons, List.map_nil] at this
            rw [this]; rfl
    · simp at hcp
      rw [put_no hcp, hcp]; rfl
theorem put_b (c : Nat) : orI .u8 (andI .u8 (fwrap .u8 (c : Int)) 63) 128 = ((128 + c % 64 : Nat) : Int) := by
  rw [fwu8, (byte_ok (b := c % 256) (by omega)).1, (or128 (by omega)).1, show c % 256 % 64 = c % 64 from by omega]
theorem put_at {k : Nat} (hk : 6 ≤ k) (n : Int) : g19 k n = some (put n) := by
  obtain ⟨k, rfl⟩ : ∃ k', k = k' + 6 := ⟨k - 6, by omega⟩
  unfold g19
  by_cases hn : n < 0
  · rw [put_neg hn, (cp_neg (k := k + 6) hn).1]; rfl
  · obtain ⟨c, rfl⟩ : ∃ c : Nat, n = (c : Int) := ⟨n.toNat, by omega⟩
    rw [cp_at, Option.bind_some]
    by_cases hcp : cpN c = true
    · have hle := cp_le hcp
      rw [put_cp hcp, hcp]
      simp only [Bool.not_true, Bool.false_eq_true, if_false]
      have l2 : g32 (k + 6) (fwrap .i64 (1 + 1)) = some 128 := by rfl
      have l3 : g32 (k + 6) (fwrap .i64 (2 + 1)) = some 2048 := by rfl
      have l4 : g32 (k + 6) (fwrap .i64 (3 + 1)) = some 65536 := by rfl
      have f2 : fwrap .i64 (1 + 1) = 2 := by rfl
      have f3 : fwrap .i64 (2 + 1) = 3 := by rfl
      have f4 : fwrap .i64 (3 + 1) = 4 := by rfl
      have m2 : g32 (k + 6) 2 = some 128 := by rfl
      have m3 : g32 (k + 6) 3 = some 2048 := by rfl
      have m4 : g32 (k + 6) 4 = some 65536 := by rfl
      unfold enc
      by_cases h1 : c < 128
      · rw [if_pos h1, g19_l7_s, decide_eq_true (show (1 : Int) < 4 by decide)]
        simp only [l2, f2, m2, decide_true, Option.bind_some, jn, if_true, decide_eq_false (show ¬ (128 : Int) ≤ (c : Int) by omega), Bool.false_eq_true, if_false]
        rw [fwu8, Nat.mod_eq_of_lt (by omega)]
        have := toS_nat [c] (by intro b hb; simp at hb; omega)
        simp only [List.map_cons, List.map_nil] at this
        rw [this]; rfl
      · rw [if_neg h1, g19_l7_s, decide_eq_true (show (1 : Int) < 4 by decide)]
        simp only [l2, f2, m2, decide_true, Option.bind_some, jn, if_true, decide_eq_true (show (128 : Int) ≤ (c : Int) by omega), f2]
        rw [g19_l7_s, decide_eq_true (show (2 : Int) < 4 by decide)]
        simp only [l3, f3, m3, decide_true, Option.bind_some, jn, if_true]
        by_cases h2 : c < 2048
        · rw [if_pos h2, decide_eq_false (show ¬ (2048 : Int) ≤ (c : Int) by omega)]
          simp only [Bool.false_eq_true, if_false, decide_eq_false (show ¬ (2 : Int) = 1 by decide)]
          rw [show mkS (0 : Int) 1 2 = some [0, 0] from by decide, Option.bind_some, show fwrap .i64 ((2 : Int) - 1) = 1 from rfl, g19_l9_s, decide_eq_true (show (0 : Int) < 1 by decide), put_b, shrC_nat]
          simp only [if_true]
          rw [show (idxO ([0, 0] : List Int) 1) = some 1 from by decide, Option.bind_some]
          rw [show (setO ([0, 0] : List Int) 1 ((128 + c % 64 : Nat) : Int)) = some [0, ((128 + c % 64 : Nat) : Int)] from rfl, Option.bind_some, show fwrap .i64 ((1 : Int) - 1) = 0 from rfl, g19_l9_s, decide_eq_false (show ¬ (0 : Int) < 0 by decide)]
          simp only [Bool.false_eq_true, if_false]
          rw [show shlS .u8 255 (fwrap .i64 (8 - (2 : Int))) = some 192 from by decide, Option.bind_some, fwu8, show c / 2 ^ 6 % 256 = c / 64 from by omega, (or192 (by omega)).1]
          have := toS_nat [192 + c / 64, 128 + c % 64] (by intro b hb; simp at hb; omega)
          simp only [List.map_cons, List.map_nil] at this
          show (toS [((192 + c / 64 : Nat) : Int), ((128 + c % 64 : Nat) : Int)]).bind _ = _
          rw [this]; rfl
        · rw [if_neg h2, decide_eq_true (show (2048 : Int) ≤ (c : Int) by omega)]
          simp only [if_true, f3]
          rw [g19_l7_s, decide_eq_true (show (3 : Int) < 4 by decide)]
          simp only [l4, f4, m4, decide_true, Option.bind_some, jn, if_true]
          by_cases h3 : c < 65536
          · rw [if_pos h3, decide_eq_false (show ¬ (65536 : Int) ≤ (c : Int) by omega)]
            simp only [Bool.false_eq_true, if_false, decide_eq_false (show ¬ (3 : Int) = 1 by decide)]
            rw [show mkS (0 : Int) 1 3 = some [0, 0, 0] from by decide, Option.bind_some, show fwrap .i64 ((3 : Int) - 1) = 2 from rfl, g19_l9_s, decide_eq_true (show (0 : Int) < 2 by decide), put_b, shrC_nat]
            simp only [if_true]
            rw [show (idxO ([0, 0, 0] : List Int) 2) = some 2 from by decide, Option.bind_some]
            rw [show (setO ([0, 0, 0] : List Int) 2 ((128 + c % 64 : Nat) : Int)) = some [0, 0, ((128 + c % 64 : Nat) : Int)] from rfl, Option.bind_some, show fwrap .i64 ((2 : Int) - 1) = 1 from rfl, g19_l9_s, decide_eq_true (show (0 : Int) < 1 by decide), put_b, shrC_nat]
            simp only [if_true]
            rw [show (idxO ([0, 0, ((128 + c % 64 : Nat) : Int)] : List Int) 1) = some 1 from rfl, Option.bind_some]
            rw [show (setO ([0, 0, ((128 + c % 64 : Nat) : Int)] : List Int) 1 ((128 + c / 2 ^ 6 % 64 : Nat) : Int)) = some [0, ((128 + c / 2 ^ 6 % 64 : Nat) : Int), ((128 + c % 64 : Nat) : Int)] from rfl, Option.bind_some, show fwrap .i64 ((1 : Int) - 1) = 0 from rfl, g19_l9_s, decide_eq_false (show ¬ (0 : Int) < 0 by decide)]
            simp only [Bool.false_eq_true, if_false]
            rw [show shlS .u8 255 (fwrap .i64 (8 - (3 : Int))) = some 224 from by decide, Option.bind_some, fwu8, show c / 2 ^ 6 / 2 ^ 6 % 256 = c / 4096 from by omega, (or224 (by omega)).1]
            have := toS_nat [224 + c / 4096, 128 + c / 64 % 64, 128 + c % 64] (by intro b hb; simp at hb; omega)
            simp only [List.map_cons, List.map_nil] at this
            show (toS [((224 + c / 4096 : Nat) : Int), ((128 + c / 64 % 64 : Nat) : Int), ((128 + c % 64 : Nat) : Int)]).bind _ = _
            rw [this]; rfl
          · rw [if_neg h3, decide_eq_true (show (65536 : Int) ≤ (c : Int) by omega)]
            simp only [if_true, f4]
            rw [g19_l7_s, decide_eq_false (show ¬ (4 : Int) < 4 by decide)]
            simp only [jn, Bool.false_eq_true, if_false, decide_eq_false (show ¬ (4 : Int) = 1 by decide)]
            rw [show mkS (0 : Int) 1 4 = some [0, 0, 0, 0] from by decide, Option.bind_some, show fwrap .i64 ((4 : Int) - 1) = 3 from rfl, g19_l9_s, decide_eq_true (show (0 : Int) < 3 by decide), put_b, shrC_nat]
            simp only [if_true]
            rw [show (idxO ([0, 0, 0, 0] : List Int) 3) = some 3 from by decide, Option.bind_some]
            rw [show (setO ([0, 0, 0, 0] : List Int) 3 ((128 + c % 64 : Nat) : Int)) = some [0, 0, 0, ((128 + c % 64 : Nat) : Int)] from rfl, Option.bind_some, show fwrap .i64 ((3 : Int) - 1) = 2 from rfl, g19_l9_s, decide_eq_true (show (0 : Int) < 2 by decide), put_b, shrC_nat]
            simp only [if_true]
            rw [show (idxO ([0, 0, 0, ((128 + c % 64 : Nat) : Int)] : List Int) 2) = some 2 from rfl, Option.bind_some]
            rw [show (setO ([0, 0, 0, ((128 + c % 64 : Nat) : Int)] : List Int) 2 ((128 + c / 2 ^ 6 % 64 : Nat) : Int)) = some [0, 0, ((128 + c / 2 ^ 6 % 64 : Nat) : Int), ((128 + c % 64 : Nat) : Int)] from rfl, Option.bind_some, show fwrap .i64 ((2 : Int) - 1) = 1 from rfl, g19_l9_s, decide_eq_true (show (0 : Int) < 1 by decide), put_b, shrC_nat]
            simp only [if_true]
            rw [show (idxO ([0, 0, ((128 + c / 2 ^ 6 % 64 : Nat) : Int), ((128 + c % 64 : Nat) : Int)] : List Int) 1) = some 1 from rfl, Option.bind_some]
            rw [show (setO ([0, 0, ((128 + c / 2 ^ 6 % 64 : Nat) : Int), ((128 + c % 64 : Nat) : Int)] : List Int) 1 ((128 + c / 2 ^ 6 / 2 ^ 6 % 64 : Nat) : Int)) = some [0, ((128 + c / 2 ^ 6 / 2 ^ 6 % 64 : Nat) : Int), ((128 + c / 2 ^ 6 % 64 : Nat) : Int), ((128 + c % 64 : Nat) : Int)] from rfl, Option.bind_some, show fwrap .i64 ((1 : Int) - 1) = 0 from rfl, g19_l9_s, decide_eq_false (show ¬ (0 : Int) < 0 by decide)]
            simp only [Bool.false_eq_true, if_false]
            rw [show shlS .u8 255 (fwrap .i64 (8 - (4 : Int))) = some 240 from by decide, Option.bind_some, fwu8, show c / 2 ^ 6 / 2 ^ 6 / 2 ^ 6 % 256 = c / 262144 from by omega, (or240 (by omega)).1]
            have := toS_nat [240 + c / 262144, 128 + c / 4096 % 64, 128 + c / 64 % 64, 128 + c % 64] (by intro b hb; simp at hb; omega)
            simp only [List.map_cons, List.map_nil] at this
            show (toS [((240 + c / 262144 : Nat) : Int), ((128 + c / 2 ^ 6 / 2 ^ 6 % 64 : Nat) : Int), ((128 + c / 64 % 64 : Nat) : Int), ((128 + c % 64 : Nat) : Int)]).bind _ = _
            rw [show c / 2 ^ 6 / 2 ^ 6 % 64 = c / 4096 % 64 from by omega, this]; rfl
    · simp at hcp
      rw [put_no hcp, hcp]; rfl
end Go.Proofs.Ytfkefelgjbfkjaa.Am
