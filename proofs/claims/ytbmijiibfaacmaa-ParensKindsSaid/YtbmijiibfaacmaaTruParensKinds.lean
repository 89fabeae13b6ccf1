/- ParensKinds comes out true: at each kind, level and literal it is computed. -/
import Derived.Test.YtbmijiibfaacmaaG5
import Derived.Test.YtbmijiibfaacmaaAid
set_option maxRecDepth 100000
namespace Go.Proofs.Ytbmijiibfaacmaa.Am
open Go

theorem parensKinds_all : ((List.range 30).all fun i => (List.range 12).all fun j => (List.range 10).all fun l => isT (g5 60 (i : Int) (j : Int) (l : Int))) = true := by decide +kernel
theorem parensKinds_true (a b c : Int) : ∃ k, g5 k a b c = some true := by
  obtain ⟨i, hi, h1, h2⟩ := tmod_at a 30 (by decide) (by decide)
  obtain ⟨j, hj, h3, h4⟩ := tmod_at b 12 (by decide) (by decide)
  obtain ⟨l, hl, h5, h6⟩ := rem_at c 10 (by decide) (by decide)
  refine ⟨60, ?_⟩
  have h := all3 (f := fun i j l => g5 60 (i : Int) (j : Int) (l : Int)) parensKinds_all i j l hi hj hl
  have hl : (g5c0.length : Int) = ((10 : Nat) : Int) := by decide
  have e1 : (fwrap .u64 a).tmod 30 = (i : Int) := h1
  have e2 : (fwrap .u64 (i : Int)).tmod 30 = (i : Int) := h2
  have e3 : (fwrap .u64 b).tmod 12 = (j : Int) := h3
  have e4 : (fwrap .u64 (j : Int)).tmod 12 = (j : Int) := h4
  simp only [g5, hl, e2, e4, h6] at h
  simp only [g5, hl, e1, e3, h5]
  exact h
end Go.Proofs.Ytbmijiibfaacmaa.Am
