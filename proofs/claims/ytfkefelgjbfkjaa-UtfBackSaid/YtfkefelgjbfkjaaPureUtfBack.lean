/- UtfBack: at every input the law comes out true. Printed by law.py. -/
import Derived.Test.YtfkefelgjbfkjaaTruUtfBack
import Derived.Test.YtfkefelgjbfkjaaBmRow
import Derived.Below
set_option linter.unusedVariables false
set_option linter.unusedSimpArgs false
namespace Go.Proofs.Ytfkefelgjbfkjaa.Am
open Go

theorem utfBack_walk (v0 : Option Addr) (len0 cap0 : Nat) (z0 : List Int) (W : World) (w0 : IsRow .i64 W v0 len0 cap0 z0) (y0 : len0 * 8 ≤ 140737488351232) : Calls Try.prog 4 #[.slice v0 len0 cap0] W fun e W' => e = .returned (.bool true) ∧ RowKit.Below W.heap.size W W' := by
  obtain ⟨k, h⟩ := utfBack_true z0 (by intro n hn; have := row_wf w0 n hn; simpa [Lit.wf, IntKind.min, IntKind.max, IntKind.signed, IntKind.bits] using this) (by rw [row_len w0]; omega)
  refine law_walk_fz (g4_ok k z0 true h) W (fzOf .i64 v0 z0 ++ []) (by simp only [VRs]; exact ⟨_, _, rfl, (by have e := row_VR w0 (fzOf .i64 v0 z0 ++ []) (([] : List (Nat × List AV))).length (fun h => fzOf_get ([] : List (Nat × List AV)) _ h); rw [← flat1 (AV.int .i64)] at e; exact e), rfl⟩) ?_
  intro p hp
  rcases List.mem_append.1 hp with hp | hp
  · obtain ⟨hne, rfl⟩ := fzOf_mem hp
    exact row_froz w0 hne _
  · cases hp
end Go.Proofs.Ytfkefelgjbfkjaa.Am
