/- utf: what stands at a place of a text, told in plain lists: utf.Next and galleyref1.Next both tell it. -/
import Derived.Test.YtfkefelgjbfkjaaG13
import Derived.Test.YtfkefelgjbfkjaaG14
import Derived.Test.YtfkefelgjbfkjaaAid
set_option maxRecDepth 100000
set_option linter.unusedVariables false
namespace Go.Proofs.Ytfkefelgjbfkjaa.Am
open Go

/-! ### bytes and bits -/
theorem nthS_at {s : List Nat} {i b : Nat} {r : List Nat} (h : s.drop i = b :: r) : nthS s (i : Int) = some (b : Int) := by
  have e : s[i]? = some b := by
    have := List.getElem?_drop (xs := s) (i := i) (j := 0)
    rw [h] at this
    simpa using this.symm
  unfold nthS
  rw [if_pos (by omega)]
  simp [e]
theorem drop_cons {s : List Nat} {i : Nat} (h : i < s.length) : ∃ b r, s.drop i = b :: r ∧ s.drop (i + 1) = r ∧ b ∈ s := by
  refine ⟨s[i], s.drop (i + 1), ?_, rfl, List.getElem_mem h⟩
  exact List.drop_eq_getElem_cons h
def byteOk (b : Nat) : Bool := decide (andI .u8 (b : Int) 63 = ((b % 64 : Nat) : Int)) && decide (andI .u8 (b : Int) 31 = ((b % 32 : Nat) : Int)) && decide (andI .u8 (b : Int) 15 = ((b % 16 : Nat) : Int)) && decide (andI .u8 (b : Int) 7 = ((b % 8 : Nat) : Int)) && (decide (andI .u8 (b : Int) 192 = 128) == decide (b / 64 = 2))
theorem byteOk_all : ((List.range 256).all byteOk) = true := by decide +kernel
theorem byte_ok {b : Nat} (h : b < 256) : andI .u8 (b : Int) 63 = ((b % 64 : Nat) : Int) ∧ andI .u8 (b : Int) 31 = ((b % 32 : Nat) : Int) ∧ andI .u8 (b : Int) 15 = ((b % 16 : Nat) : Int) ∧ andI .u8 (b : Int) 7 = ((b % 8 : Nat) : Int) ∧ (andI .u8 (b : Int) 192 = 128 ↔ b / 64 = 2) := by
  have w := List.all_eq_true.1 byteOk_all b (List.mem_range.2 h)
  simp only [byteOk, Bool.and_eq_true, decide_eq_true_eq, beq_iff_eq] at w
  obtain ⟨⟨⟨⟨w1, w2⟩, w3⟩, w4⟩, w5⟩ := w
  refine ⟨w1, w2, w3, w4, ?_⟩
  constructor
  · intro h
    rw [decide_eq_true h] at w5
    exact of_decide_eq_true w5.symm
  · intro h
    rw [decide_eq_true h] at w5
    exact of_decide_eq_true w5
theorem shrC_nat (x : Nat) (n : Nat) : shrC (x : Int) n = ((x / 2 ^ n : Nat) : Int) := by
  unfold shrC
  rw [Int.fdiv_eq_ediv_of_nonneg _ (by exact Int.le_of_lt (Int.pow_pos (by decide)))]
  push_cast
  rfl
theorem fwn (x : Nat) (h : x ≤ 9223372036854775807) : fwrap .i64 (x : Int) = x := fw64 _ (by omega) (by omega)
theorem or_add (y m : Nat) (hy : y < 1125899906842624) (hm : m < 64) : orI .i64 (shlC .i64 (y : Int) 6) (m : Int) = ((y * 64 + m : Nat) : Int) := by
  have e1 : shlC .i64 (y : Int) 6 = ((y * 64 : Nat) : Int) := by
    unfold shlC
    have : (y : Int) * 2 ^ 6 = ((y * 64 : Nat) : Int) := by push_cast; omega
    rw [this, fwn _ (by omega)]
  rw [e1]
  unfold orI
  have e2 : ∀ x : Nat, x < 2 ^ 63 → (BitVec.ofInt IntKind.i64.bits (x : Int)).toNat = x := by
    intro x hx
    show (BitVec.ofInt 64 (x : Int)).toNat = x
    rw [BitVec.toNat_ofInt]
    omega
  rw [BitVec.toNat_or, e2 _ (by omega), e2 _ (by omega)]
  have e3 : y * 64 ||| m = y * 64 + m := by
    have h := Nat.two_pow_add_eq_or_of_lt (i := 6) hm y
    rw [Nat.mul_comm y 64]
    exact h.symm
  rw [e3, fwn _ (by omega)]

/-! ### what is told -/
def leadN (c : Nat) : Nat × Nat := if c < 128 then (1, c) else if c / 32 = 6 then (2, c % 32) else if c / 16 = 14 then (3, c % 16) else if c / 8 = 30 then (4, c % 8) else (0, 0)
def moreN : Nat → Nat → List Nat → Option Nat
  | 0, c, _ => some c
  | _ + 1, _, [] => none
  | n + 1, c, b :: r => if b / 64 = 2 then moreN n (c * 64 + b % 64) r else none
def leastN (n : Nat) : Nat := if n = 2 then 128 else if n = 3 then 2048 else if n = 4 then 65536 else 0
def cpN (c : Nat) : Bool := decide (c ≤ 1114111) && !(decide (55296 ≤ c) && decide (c ≤ 57343))
def fitN (n : Nat) : Option Nat → Int × Int
  | none => (-1, 1)
  | some y => if leastN n ≤ y ∧ cpN y = true then ((y : Int), (n : Int)) else (-1, 1)
/-- What a text begins with: a code point (-1: none) and how many bytes it has. -/
def dec : List Nat → Int × Int
  | [] => (0, 0)
  | c :: r => if (leadN c).1 = 0 then (-1, 1) else fitN (leadN c).1 (moreN ((leadN c).1 - 1) (leadN c).2 r)
theorem moreN_none : ∀ (n c : Nat) (r : List Nat), r.length < n → moreN n c r = none
  | 0, c, r, h => by omega
  | n + 1, c, [], h => rfl
  | n + 1, c, b :: r, h => by
    unfold moreN
    split
    · exact moreN_none n _ r (by simp at h; omega)
    · rfl
theorem lead_at {k c : Nat} (h : c < 256) : g31 k (c : Int) = some (((leadN c).1 : Int), ((leadN c).2 : Int)) := by
  obtain ⟨-, b31, b15, b7, -⟩ := byte_ok h
  unfold g31 leadN
  simp only [shrC_nat, b31, b15, b7]
  have p5 : (2 : Nat) ^ 5 = 32 := rfl
  have p4 : (2 : Nat) ^ 4 = 16 := rfl
  have p3 : (2 : Nat) ^ 3 = 8 := rfl
  rw [p5, p4, p3]
  repeat' split
  all_goals first | (simp only [decide_eq_true_eq] at *; omega) | (simp only []; rw [fwn _ (by omega)]; try rfl) | rfl
theorem cp_at {k c : Nat} : g33 k (c : Int) = some (cpN c) := by
  unfold g33 cpN
  simp only [shrC_nat]
  have p : (2 : Nat) ^ 11 = 2048 := rfl
  rw [p]
  by_cases h1 : c ≤ 1114111
  · have e1 : decide ((0 : Int) ≤ (c : Int)) = true := by simp
    have e2 : decide ((c : Int) ≤ 1114111) = true := by simp; omega
    have e3 : decide (((c / 2048 : Nat) : Int) = 27) = (decide (55296 ≤ c) && decide (c ≤ 57343)) := by
      rw [Bool.eq_iff_iff]; simp; omega
    rw [e1, e2, e3, decide_eq_true h1]
    rfl
  · have e2 : decide ((c : Int) ≤ 1114111) = false := by simp; omega
    simp [e2, h1]
theorem point_at {k c : Nat} : g34 k (c : Int) = some (cpN c) := by
  unfold g34 cpN
  by_cases h1 : c ≤ 1114111
  · by_cases h2 : c < 55296
    · have : ¬ 55296 ≤ c := by omega
      have e2 : decide ((c : Int) ≤ 1114111) = true := by simp; omega
      have e3 : decide ((c : Int) < 55296) = true := by simp; omega
      simp [e2, e3, h1, this]
    · have : 55296 ≤ c := by omega
      have e2 : decide ((c : Int) ≤ 1114111) = true := by simp; omega
      have e3 : decide ((c : Int) < 55296) = false := by simp; omega
      simp [e2, e3, h1, this]
      rw [Bool.eq_iff_iff]; simp; omega
  · have e2 : decide ((c : Int) ≤ 1114111) = false := by simp; omega
    simp [e2, h1]
theorem least_at {k n : Nat} (h : n ≤ 4) : g32 k (n : Int) = some ((leastN n : Nat) : Int) := by
  have : n = 0 ∨ n = 1 ∨ n = 2 ∨ n = 3 ∨ n = 4 := by omega
  obtain rfl | rfl | rfl | rfl | rfl := this <;> rfl

end Go.Proofs.Ytfkefelgjbfkjaa.Am
