/- GapCounts comes out true: it asks for two rests alone, and is computed at each. -/
import Derived.Test.YtbmijiibfaacmaaG13
import Derived.Test.YtbmijiibfaacmaaAid
set_option maxRecDepth 100000
namespace Go.Proofs.Ytbmijiibfaacmaa.Am
open Go

theorem gapCounts_all : ((List.range 11).all fun i => (List.range 4).all fun j => isT (g13 60 (i : Int) (j : Int))) = true := by decide +kernel
theorem gapCounts_and (a y : Int) : andI .i64 (fwrap .i64 (a + y)) 3 = (a + y) % 4 := by
  obtain ⟨t, ht⟩ := fw64_add (a + y)
  have := andI64 (fwrap .i64 (a + y)) 2 (by decide)
  have e : andI .i64 (fwrap .i64 (a + y)) 3 = fwrap .i64 (a + y) % 4 := this
  rw [e, ht]
  omega
theorem gapCounts_same (k : Nat) (a b i j : Int) (h1 : (fwrap .u64 a).tmod 11 = (fwrap .u64 i).tmod 11) (h2 : ∀ y, (b + y) % 4 = (j + y) % 4) : ∀ (n : Nat) (s : List Nat) (y : Int), g13_l4 k a b n s y = g13_l4 k i j n s y
  | 0, s, y => rfl
  | n + 1, s, y => by
    rw [g13_l4_s, g13_l4_s]
    simp only [gapCounts_and, h1, h2, gapCounts_same k a b i j h1 h2 n]
theorem gapCounts_true (a b : Int) : ∃ k, g13 k a b = some true := by
  obtain ⟨i, hi, h1, h2⟩ := tmod_at a 11 (by decide) (by decide)
  have hb0 : 0 ≤ b % 4 := Int.emod_nonneg _ (by decide)
  have hb1 : b % 4 < 4 := Int.emod_lt_of_pos _ (by decide)
  refine ⟨60, ?_⟩
  have h := all2 (f := fun i j => g13 60 (i : Int) (j : Int)) gapCounts_all i (b % 4).toNat hi (by omega)
  have e : g13 60 a b = g13 60 (i : Int) (((b % 4).toNat : Nat) : Int) := by
    unfold g13
    refine gapCounts_same 60 a b i _ ?_ ?_ 60 _ _
    · have e1 : (fwrap .u64 a).tmod 11 = (i : Int) := h1
      have e2 : (fwrap .u64 (i : Int)).tmod 11 = (i : Int) := h2
      rw [e1, e2]
    · intro y; omega
  rw [e]
  exact h
end Go.Proofs.Ytbmijiibfaacmaa.Am
