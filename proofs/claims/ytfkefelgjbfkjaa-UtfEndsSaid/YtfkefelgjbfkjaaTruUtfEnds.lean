/- UtfEnds comes out true: at each end it is computed. -/
import Derived.Test.YtfkefelgjbfkjaaG6
import Derived.Test.YtfkefelgjbfkjaaAid
set_option maxRecDepth 100000
namespace Go.Proofs.Ytfkefelgjbfkjaa.Am
open Go

theorem utfEnds_all : ((List.range 13).all fun i => (List.range 3).all fun j => isT (g6 60 (i : Int) (j : Int))) = true := by decide +kernel
theorem utfEnds_true (a b : Int) : ∃ k, g6 k a b = some true := by
  obtain ⟨i, hi, h1, h2⟩ := tmod_at a 13 (by decide) (by decide)
  obtain ⟨j, hj, h3, h4⟩ := tmod_at b 3 (by decide) (by decide)
  refine ⟨60, ?_⟩
  have h := all2 (f := fun i j => g6 60 (i : Int) (j : Int)) utfEnds_all i j hi hj
  have e1 : (fwrap .u64 a).tmod 13 = (i : Int) := h1
  have e2 : (fwrap .u64 (i : Int)).tmod 13 = (i : Int) := h2
  have e3 : (fwrap .u64 b).tmod 3 = (j : Int) := h3
  have e4 : (fwrap .u64 (j : Int)).tmod 3 = (j : Int) := h4
  simp only [g6, e2, e4] at h
  simp only [g6, e1, e3]
  exact h
end Go.Proofs.Ytfkefelgjbfkjaa.Am
