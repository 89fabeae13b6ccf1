/- ScanWrong comes out true: at each text behind each other it is computed. -/
import Derived.Test.YtokcjgjgojlhbaaG7
import Derived.Test.YtokcjgjgojlhbaaAid
set_option maxRecDepth 100000
namespace Go.Proofs.Ytokcjgjgojlhbaa.Am
open Go

theorem scanWrong_all : ((List.range 28).all fun i => (List.range 8).all fun j => isT (g7 60 (i : Int) (j : Int))) = true := by decide +kernel
theorem scanWrong_true (a b : Int) : ∃ k, g7 k a b = some true := by
  obtain ⟨i, hi, h1, h2⟩ := rem_at a 28 (by decide) (by decide)
  obtain ⟨j, hj, h3, h4⟩ := rem_at b 8 (by decide) (by decide)
  refine ⟨60, ?_⟩
  have h := all2 (f := fun i j => g7 60 (i : Int) (j : Int)) scanWrong_all i j hi hj
  have hl : (g7c1.length : Int) = ((28 : Nat) : Int) := by decide
  have hl2 : (g7c2.length : Int) = ((8 : Nat) : Int) := by decide
  simp only [g7, hl, hl2] at h ⊢
  rw [h2, h4] at h
  rw [h1, h3]
  exact h
end Go.Proofs.Ytokcjgjgojlhbaa.Am
