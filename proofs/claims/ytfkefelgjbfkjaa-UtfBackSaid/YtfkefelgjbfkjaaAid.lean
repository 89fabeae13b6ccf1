/- Plain aids: bytes, rests of numbers, steps of loops. -/
import Derived.Test.YtfkefelgjbfkjaaTy
set_option linter.unusedVariables false
namespace Go.Proofs.Ytfkefelgjbfkjaa.Am
open Go

theorem bytes_lt (a : ByteArray) : ∀ b ∈ a.data.toList.map (·.toNat), b < 256 := by
  intro b hb
  obtain ⟨c, _, rfl⟩ := List.mem_map.1 hb
  exact UInt8.toNat_lt c
theorem fw64 (n : Int) (h1 : -9223372036854775808 ≤ n) (h2 : n ≤ 9223372036854775807) : fwrap .i64 n = n := by
  have h1 : lo .i64 ≤ n := h1
  have h2 : n ≤ hi .i64 := h2
  unfold fwrap
  rw [if_pos (by simp [h1, h2])]
theorem fwrap_u64 (n : Int) : fwrap .u64 n = n % 18446744073709551616 := by
  rw [fwrap_eq]; simp [IntKind.wrap, IntKind.bits, IntKind.signed]
/-- A number's rest, as an unsigned one. -/
theorem rem_at (a : Int) (q : Nat) (h0 : 0 < q) (hq : q < 18446744073709551616) : ∃ i : Nat, i < q ∧ remS (fwrap .u64 a) (fwrap .u64 (q : Int)) = some (i : Int) ∧ remS (fwrap .u64 (i : Int)) (fwrap .u64 (q : Int)) = some (i : Int) := by
  have e1 : fwrap .u64 (q : Int) = q := by rw [fwrap_u64]; omega
  have e2 : 0 ≤ fwrap .u64 a := by rw [fwrap_u64]; omega
  have hne : ¬ (q : Int) = 0 := by omega
  have h1 : 0 ≤ (fwrap .u64 a) % (q : Int) := Int.emod_nonneg _ hne
  have h2 : (fwrap .u64 a) % (q : Int) < q := Int.emod_lt_of_pos _ (by omega)
  refine ⟨((fwrap .u64 a) % (q : Int)).toNat, by omega, ?_, ?_⟩
  · rw [e1]; unfold remS
    rw [if_neg hne, Int.tmod_eq_emod_of_nonneg e2]
    congr 1; omega
  · rw [e1]; unfold remS
    have e3 : fwrap .u64 ((((fwrap .u64 a) % (q : Int)).toNat : Nat) : Int) = (fwrap .u64 a) % (q : Int) := by rw [fwrap_u64]; omega
    rw [e3, if_neg hne, Int.tmod_eq_emod_of_nonneg h1, Int.emod_emod_of_dvd _ (Int.dvd_refl _)]
    congr 1; omega
theorem tmod_at (a : Int) (q : Nat) (h0 : 0 < q) (hq : q < 18446744073709551616) : ∃ i : Nat, i < q ∧ (fwrap .u64 a).tmod (q : Int) = (i : Int) ∧ (fwrap .u64 (i : Int)).tmod (q : Int) = (i : Int) := by
  obtain ⟨i, h1, h2, h3⟩ := rem_at a q h0 hq
  have e1 : fwrap .u64 (q : Int) = q := by rw [fwrap_u64]; omega
  rw [e1] at h2 h3
  unfold remS at h2 h3
  rw [if_neg (by omega)] at h2 h3
  exact ⟨i, h1, Option.some.inj h2, Option.some.inj h3⟩
/-- The lowest bits of a number. -/
theorem andI64 (x : Int) (m : Nat) (hm : m ≤ 62) : andI .i64 x ((2 ^ m - 1 : Nat) : Int) = x % ((2 ^ m : Nat) : Int) := by
  have hp : 2 ^ m ≤ 2 ^ 62 := Nat.pow_le_pow_right (by decide) hm
  have h0 : 0 < 2 ^ m := Nat.two_pow_pos m
  have e1 : (BitVec.ofInt 64 x).toNat = (x % 18446744073709551616).toNat := by rw [BitVec.toNat_ofInt]; rfl
  have e2 : (BitVec.ofInt 64 ((2 ^ m - 1 : Nat) : Int)).toNat = 2 ^ m - 1 := by
    rw [BitVec.toNat_ofInt]
    omega
  have e3 : (((BitVec.ofInt 64 x &&& BitVec.ofInt 64 ((2 ^ m - 1 : Nat) : Int)).toNat : Nat) : Int) = x % ((2 ^ m : Nat) : Int) := by
    rw [BitVec.toNat_and, e1, e2, Nat.and_two_pow_sub_one_eq_mod]
    have h1 : 0 ≤ x % 18446744073709551616 := Int.emod_nonneg _ (by decide)
    have h2 : (((x % 18446744073709551616).toNat : Nat) : Int) = x % 18446744073709551616 := by omega
    rw [Int.natCast_emod, h2]
    refine Int.emod_emod_of_dvd x ?_
    have : (2 : Nat) ^ m ∣ 2 ^ 64 := Nat.pow_dvd_pow 2 (by omega)
    have := Int.natCast_dvd_natCast.2 this
    exact this
  unfold andI
  show fwrap .i64 (((BitVec.ofInt 64 x &&& BitVec.ofInt 64 ((2 ^ m - 1 : Nat) : Int)).toNat : Nat) : Int) = _
  rw [e3]
  have h3 : 0 ≤ x % ((2 ^ m : Nat) : Int) := Int.emod_nonneg _ (by omega)
  have h4 : x % ((2 ^ m : Nat) : Int) < ((2 ^ m : Nat) : Int) := Int.emod_lt_of_pos _ (by omega)
  exact fw64 _ (by omega) (by omega)
theorem wrap64_eq (n : Int) : IntKind.i64.wrap n = n % 18446744073709551616 ∨ IntKind.i64.wrap n = n % 18446744073709551616 - 18446744073709551616 := by
  by_cases h : 9223372036854775808 ≤ n % 18446744073709551616
  · right; simp [IntKind.wrap, IntKind.bits, IntKind.signed]; omega
  · left; simp [IntKind.wrap, IntKind.bits, IntKind.signed]; omega
theorem fw64_add (n : Int) : ∃ t : Int, fwrap .i64 n = n + 18446744073709551616 * t := by
  rw [fwrap_eq]
  rcases wrap64_eq n with h | h
  · exact ⟨-(n / 18446744073709551616), by rw [h]; omega⟩
  · exact ⟨-(n / 18446744073709551616) - 1, by rw [h]; omega⟩
/-- Came it out true? -/
def isT (o : Option Bool) : Bool := match o with | some b => b | none => false
theorem isT_eq {o : Option Bool} (h : isT o = true) : o = some true := by
  unfold isT at h; split at h
  · rw [h]
  · cases h
theorem all2 {f : Nat → Nat → Option Bool} {p q : Nat} (h : ((List.range p).all fun i => (List.range q).all fun j => isT (f i j)) = true) (i j : Nat) (hi : i < p) (hj : j < q) : f i j = some true :=
  isT_eq (List.all_eq_true.1 (List.all_eq_true.1 h i (List.mem_range.2 hi)) j (List.mem_range.2 hj))
theorem all1 {f : Nat → Option Bool} {p : Nat} (h : ((List.range p).all fun i => isT (f i)) = true) (i : Nat) (hi : i < p) : f i = some true :=
  isT_eq (List.all_eq_true.1 h i (List.mem_range.2 hi))
theorem all3 {f : Nat → Nat → Nat → Option Bool} {p q s : Nat} (h : ((List.range p).all fun i => (List.range q).all fun j => (List.range s).all fun l => isT (f i j l)) = true) (i j l : Nat) (hi : i < p) (hj : j < q) (hl : l < s) : f i j l = some true :=
  isT_eq (List.all_eq_true.1 (List.all_eq_true.1 (List.all_eq_true.1 h i (List.mem_range.2 hi)) j (List.mem_range.2 hj)) l (List.mem_range.2 hl))
end Go.Proofs.Ytfkefelgjbfkjaa.Am
