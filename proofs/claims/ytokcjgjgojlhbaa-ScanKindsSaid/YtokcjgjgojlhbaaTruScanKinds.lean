/- ScanKinds comes out true: at each pair of the texts it is computed. -/
import Derived.Test.YtokcjgjgojlhbaaG6
import Derived.Test.YtokcjgjgojlhbaaAid
set_option maxRecDepth 100000
namespace Go.Proofs.Ytokcjgjgojlhbaa.Am
open Go

theorem scanKinds_all : ((List.range 28).all fun i => (List.range 29).all fun j => isT (g6 60 (i : Int) (j : Int))) = true := by decide +kernel
theorem scanKinds_true (a b : Int) : ∃ k, g6 k a b = some true := by
  obtain ⟨i, hi, h1, h2⟩ := rem_at a 28 (by decide) (by decide)
  obtain ⟨j, hj, h3, h4⟩ := rem_at b 29 (by decide) (by decide)
  refine ⟨60, ?_⟩
  have h := all2 (f := fun i j => g6 60 (i : Int) (j : Int)) scanKinds_all i j hi hj
  have hl : (g6c4.length : Int) = ((29 : Nat) : Int) := by decide
  have hl1 : fwrap .i64 (((29 : Nat) : Int) - 1) = ((28 : Nat) : Int) := by decide
  simp only [g6, hl, hl1] at h ⊢
  rw [h2, h4] at h
  rw [h1, h3]
  exact h
end Go.Proofs.Ytokcjgjgojlhbaa.Am
