/- OpsAsks comes out true: for each of the words and signs it is computed; any other text is compared with these alone. -/
import Derived.Test.YtnikdnchoahngaaG7
import Derived.Test.YtnikdnchoahngaaAid
set_option maxRecDepth 100000
namespace Go.Proofs.Ytnikdnchoahngaa.Am
open Go

def opWords : List (List Nat) := g24c7.flatten ++ [[110, 111, 116], [98, 110, 111, 116]]
def qW (s w : List Nat) : Bool := if opWords.contains w then false else eqL w s
theorem opWords_all : (opWords.all fun w => isT (g7 60 w)) = true := by decide +kernel
theorem eqL_false {s w : List Nat} (hw : ¬ w = s) : eqL w s = false := by
  have h := eqL_iff w s
  cases e : eqL w s with
  | false => rfl
  | true => exact absurd (h.1 e) hw
theorem qW_l (s : List Nat) (hs : s ∉ opWords) (w : List Nat) : eqL w s = qW s w := by
  unfold qW
  split
  · rename_i h
    exact eqL_false (fun e => hs (e ▸ List.contains_iff_mem.1 h))
  · rfl
theorem qW_r (s : List Nat) (hs : s ∉ opWords) (w : List Nat) : eqL s w = qW s w := by
  unfold qW
  split
  · rename_i h
    exact eqL_false (fun e => hs (e ▸ List.contains_iff_mem.1 h))
  · cases e : eqL w s with
    | true => rw [eqL_iff] at e ⊢; exact e.symm
    | false =>
      refine eqL_false fun h => ?_
      rw [(eqL_iff w s).2 h.symm] at e
      cases e
theorem g22_60 : g22 60 = some true := by decide +kernel
theorem opsAsks_true (s : List Nat) (_ : ∀ b ∈ s, b < 256) (_ : s.length ≤ 140737488351232) : ∃ k, g7 k s = some true := by
  refine ⟨60, ?_⟩
  by_cases hs : s ∈ opWords
  · have h := List.all_eq_true.1 opWords_all s hs
    exact isT_eq h
  · have e23 : g23 60 s = some 0 := by
      simp only [g23, g23_l3, g23_l4, qW_l s hs]
      kernel_rfl
    have e24 : g24 60 s = some 0 := by
      simp only [g24, g24_l2, g24_l3, qW_l s hs]
      kernel_rfl
    have e27 : g27 60 s = some 0 := by
      simp only [g27, qW_r s hs]
      kernel_rfl
    have e28 : g28 60 s = some 0 := by
      simp only [g28, qW_r s hs]
      kernel_rfl
    have e25 : g25 60 s = some 0 := by simp only [g25, e23]; kernel_rfl
    have e26 : g26 60 s = some 0 := by simp only [g26, e24]; kernel_rfl
    have e29 : g29 60 s = some 0 := by simp only [g29, e25, e23]; kernel_rfl
    have e30 : g30 60 s = some 0 := by simp only [g30, e26, e24]; kernel_rfl
    have e31 : g31 60 s = some 0 := by simp only [g31, e25, e23]; kernel_rfl
    have e32 : g32 60 s = some 0 := by simp only [g32, e26, e24]; kernel_rfl
    unfold g7
    simp [g22_60, e23, e24, e25, e26, e27, e28, e29, e30, e31, e32]
end Go.Proofs.Ytnikdnchoahngaa.Am
