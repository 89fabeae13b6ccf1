/- SignGreedy comes out true: at each pair of signs it is computed. -/
import Derived.Test.YtnikdnchoahngaaG11
import Derived.Test.YtnikdnchoahngaaAid
set_option maxRecDepth 100000
namespace Go.Proofs.Ytnikdnchoahngaa.Am
open Go

theorem signGreedy_all : ((List.range 37).all fun i => (List.range 37).all fun j => isT (g11 60 (i : Int) (j : Int))) = true := by decide +kernel
theorem signGreedy_true (a b : Int) : ∃ k, g11 k a b = some true := by
  obtain ⟨i, hi, h1, h2⟩ := rem_at a 37 (by decide) (by decide)
  obtain ⟨j, hj, h3, h4⟩ := rem_at b 37 (by decide) (by decide)
  refine ⟨60, ?_⟩
  have h := all2 (f := fun i j => g11 60 (i : Int) (j : Int)) signGreedy_all i j hi hj
  have hl : (g11c0.length : Int) = ((37 : Nat) : Int) := by decide
  simp only [g11, hl] at h ⊢
  rw [h2, h4] at h
  rw [h1, h3]
  exact h
end Go.Proofs.Ytnikdnchoahngaa.Am
