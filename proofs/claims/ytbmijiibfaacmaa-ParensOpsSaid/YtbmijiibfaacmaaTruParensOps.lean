/- ParensOps comes out true: at each pair of operators it is computed. -/
import Derived.Test.YtbmijiibfaacmaaG4
import Derived.Test.YtbmijiibfaacmaaAid
set_option maxRecDepth 100000
namespace Go.Proofs.Ytbmijiibfaacmaa.Am
open Go

theorem parensOps_all : ((List.range 30).all fun i => (List.range 30).all fun j => isT (g4 60 (i : Int) (j : Int))) = true := by decide +kernel
theorem parensOps_true (a b : Int) : ∃ k, g4 k a b = some true := by
  obtain ⟨i, hi, h1, h2⟩ := rem_at a 30 (by decide) (by decide)
  obtain ⟨j, hj, h3, h4⟩ := rem_at b 30 (by decide) (by decide)
  refine ⟨60, ?_⟩
  have h := all2 (f := fun i j => g4 60 (i : Int) (j : Int)) parensOps_all i j hi hj
  have hl : (g4c2.length : Int) = ((30 : Nat) : Int) := by decide
  simp only [g4, hl] at h ⊢
  rw [h2, h4] at h
  rw [h1, h3]
  exact h
end Go.Proofs.Ytbmijiibfaacmaa.Am
