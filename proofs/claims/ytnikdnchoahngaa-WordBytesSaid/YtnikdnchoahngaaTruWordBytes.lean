/- WordBytes comes out true: what a byte begins and whether it is within is computed byte by byte; the text of both is read step by step. -/
import Derived.Test.YtnikdnchoahngaaG4
import Derived.Test.YtnikdnchoahngaaAid
set_option maxRecDepth 100000
namespace Go.Proofs.Ytnikdnchoahngaa.Am
open Go

def okByte (x _y : Option Bool) (z : Option Int) (a : Int) : Bool := match x, z with
  | some u, some v => (decide (0 < v) && !u) == false && (decide (127 < a) && (u || decide (0 < v))) == false && (decide (v = 3) == (decide (48 ≤ a) && decide (a ≤ 57)))
  | _, _ => false
theorem bytes_all : ((List.range 256).all fun i => okByte (g18 60 (i : Int)) none (g20 60 (i : Int)) (i : Int)) = true := by decide +kernel
theorem byte_at (a : Int) (h : 0 ≤ a ∧ a ≤ 255) : ∃ u v, g18 60 a = some u ∧ g20 60 a = some v ∧ okByte (some u) none (some v) a = true := by
  have e : ((a.toNat : Nat) : Int) = a := by omega
  have w : okByte (g18 60 a) none (g20 60 a) a = true := by
    have h := List.all_eq_true.1 bytes_all a.toNat (List.mem_range.2 (by omega))
    rw [e] at h
    exact h
  cases h1 : g18 60 a with
  | none => rw [h1] at w; simp [okByte] at w
  | some u =>
    cases h2 : g20 60 a with
    | none => rw [h1, h2] at w; simp [okByte] at w
    | some v => rw [h1, h2] at w; exact ⟨u, v, rfl, rfl, w⟩
theorem g13_60 : g13 60 = some true := by decide +kernel
theorem g16_two (a b : Nat) : g16 60 [113, a, b, 113] = (g18 60 (a : Int)).bind fun x => if (!x) then some false else (g18 60 (b : Int)).bind fun y => if (!y) then some false else some true := by kernel_rfl
theorem wordBytes_true (a b : Int) (h0 : 0 ≤ a ∧ a ≤ 255) (h1 : 0 ≤ b ∧ b ≤ 255) : ∃ k, g4 k a b = some true := by
  refine ⟨60, ?_⟩
  obtain ⟨u, v, e1, e2, e3⟩ := byte_at a h0
  obtain ⟨u', v', e4, e5, e6⟩ := byte_at b h1
  have ea : ((a.toNat : Nat) : Int) = a := by omega
  have eb : ((b.toNat : Nat) : Int) = b := by omega
  have t : toS ([a, b] : List Int) = some [a.toNat, b.toNat] := by
    simp only [toS]
    rw [if_pos (by omega : 0 ≤ b ∧ b ≤ 255)]
    simp only []
    rw [if_pos (by omega : 0 ≤ a ∧ a ≤ 255)]
  have c1 : catS [113] [a.toNat, b.toNat] = some [113, a.toNat, b.toNat] := by kernel_rfl
  have c2 : catS [113, a.toNat, b.toNat] [113] = some [113, a.toNat, b.toNat, 113] := by kernel_rfl
  have g16e := g16_two a.toNat b.toNat
  rw [ea, eb, e1, e4] at g16e
  simp only [okByte] at e3
  unfold g4
  simp only [e2, e1, e4, t, c1, c2, g13_60, g16e, Option.bind_some, jn]
  revert e3
  generalize decide (0 < v) = p1
  generalize decide (127 < a) = p2
  generalize decide (48 ≤ a) = p3
  generalize decide (a ≤ 57) = p4
  generalize decide (v = 3) = p5
  cases u <;> cases u' <;> cases p1 <;> cases p2 <;> cases p3 <;> cases p4 <;> cases p5 <;> decide
end Go.Proofs.Ytnikdnchoahngaa.Am
