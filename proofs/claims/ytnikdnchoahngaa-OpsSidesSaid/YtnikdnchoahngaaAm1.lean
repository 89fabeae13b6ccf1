/- An abstract machine for the Go code of this seat: values, memory, one function that runs code; no proof yet. -/
import Derived.Orders
import Derived.LoopN
namespace Go.Proofs.Ytnikdnchoahngaa.Am
open Go

/-- What is known of a value; 'top': nothing. Memory: root r as it stood when it had v cells, from cell off on. -/
inductive AV where
  | top
  | int (k : IntKind) (n : Int)
  | resid (k : IntKind) (q r : Nat)
  | bool (b : Bool)
  | str (s : List Nat)
  | nilp
  | ptr (r v off : Nat)
  | nils
  | slice (r v off len sz : Nat)
  | agg (xs : List AV)
  | tuple (xs : List AV)
  | func (f : Nat) (first caps : List AV)
  | nilf
  | iface (t : Nat) (v : AV)
  | nili
  deriving Inhabited

/-- Memory that was made: its cells; what stood in it before it was written (fewer cells than minv) is not told any more. -/
structure Blk where
  cells : List AV
  minv : Nat
  ro : Bool

/-- A table keyed by numbers; spelt so that the kernel runs it fast. -/
inductive PT (α : Type) where
  | nil
  | node (l : PT α) (b : Option α) (r : PT α)
noncomputable def PT.get {α : Type} (t : PT α) : Nat → Option α :=
  PT.rec (motive := fun _ => Nat → Option α) (fun _ => none) (fun _ b _ gl gr n => bif Nat.beq n 0 then b else bif Nat.beq (Nat.land n 1) 0 then gr (Nat.pred (Nat.shiftRight n 1)) else gl (Nat.shiftRight n 1)) t
def PT.left {α : Type} : PT α → PT α
  | .nil => .nil
  | .node l _ _ => l
def PT.right {α : Type} : PT α → PT α
  | .nil => .nil
  | .node _ _ r => r
def PT.mid {α : Type} : PT α → Option α
  | .nil => none
  | .node _ b _ => b
noncomputable def PT.set {α : Type} (k : Nat) : PT α → Nat → α → PT α :=
  Nat.rec (motive := fun _ => PT α → Nat → α → PT α) (fun t _ _ => t)
    (fun _ ih t n x => bif Nat.beq n 0 then .node t.left (some x) t.right else bif Nat.beq (Nat.land n 1) 0 then .node t.left t.mid (ih t.right (Nat.pred (Nat.shiftRight n 1)) x) else .node (ih t.left (Nat.shiftRight n 1) x) t.mid t.right) k
abbrev Tr := PT Blk
theorem PT.get_nil {α : Type} (n : Nat) : (PT.nil : PT α).get n = none := rfl
theorem PT.get_node {α : Type} (l : PT α) (b : Option α) (r : PT α) (n : Nat) : (PT.node l b r).get n = if n = 0 then b else if n % 2 = 1 then l.get (n / 2) else r.get (n / 2 - 1) := by
  show (bif Nat.beq n 0 then b else bif Nat.beq (Nat.land n 1) 0 then r.get (Nat.pred (Nat.shiftRight n 1)) else l.get (Nat.shiftRight n 1)) = _
  have h1 : Nat.land n 1 = n % 2 := Nat.and_one_is_mod n
  have h2 : Nat.shiftRight n 1 = n / 2 := rfl
  rw [h1, h2, Nat.pred_eq_sub_one]
  by_cases h0 : n = 0
  · subst h0; rfl
  · have e0 : Nat.beq n 0 = false := by cases n with | zero => exact absurd rfl h0 | succ n => rfl
    rw [e0, if_neg h0]
    by_cases hm : n % 2 = 1
    · rw [hm, if_pos rfl]; rfl
    · have : n % 2 = 0 := by omega
      rw [this, if_neg (by omega)]; rfl
theorem PT.get_parts {α : Type} (t : PT α) (n : Nat) : t.get n = if n = 0 then t.mid else if n % 2 = 1 then t.left.get (n / 2) else t.right.get (n / 2 - 1) := by
  cases t with
  | nil =>
    simp only [PT.mid, PT.left, PT.right, PT.get_nil]
    split
    · rfl
    · split <;> rfl
  | node l b r => exact PT.get_node l b r n
theorem PT.set_zero {α : Type} (t : PT α) (n : Nat) (x : α) : PT.set 0 t n x = t := rfl
theorem PT.set_succ {α : Type} (k : Nat) (t : PT α) (n : Nat) (x : α) : PT.set (k + 1) t n x = if n = 0 then .node t.left (some x) t.right else if n % 2 = 1 then .node (PT.set k t.left (n / 2) x) t.mid t.right else .node t.left t.mid (PT.set k t.right (n / 2 - 1) x) := by
  show (bif Nat.beq n 0 then PT.node t.left (some x) t.right else bif Nat.beq (Nat.land n 1) 0 then .node t.left t.mid (PT.set k t.right (Nat.pred (Nat.shiftRight n 1)) x) else .node (PT.set k t.left (Nat.shiftRight n 1) x) t.mid t.right) = _
  have h1 : Nat.land n 1 = n % 2 := Nat.and_one_is_mod n
  have h2 : Nat.shiftRight n 1 = n / 2 := rfl
  rw [h1, h2, Nat.pred_eq_sub_one]
  by_cases h0 : n = 0
  · subst h0; rfl
  · have e0 : Nat.beq n 0 = false := by cases n with | zero => exact absurd rfl h0 | succ n => rfl
    rw [e0, if_neg h0]
    by_cases hm : n % 2 = 1
    · rw [hm, if_pos rfl]; rfl
    · have : n % 2 = 0 := by omega
      rw [this, if_neg (by omega)]; rfl

/-- The bound on how much memory is made: so many roots. -/
def roots : Nat := 2 ^ 40
def depth : Nat := 41

theorem PT.get_set_eq {α : Type} : ∀ (k : Nat) (t : PT α) (n : Nat) (x : α), n + 1 < 2 ^ k → (PT.set k t n x).get n = some x
  | 0, _, n, _, h => by simp at h
  | k + 1, t, n, x, h => by
    have ih := fun t m hm => PT.get_set_eq k t m x hm
    have h2 : (2 : Nat) ^ (k + 1) = 2 * 2 ^ k := by rw [Nat.pow_succ]; omega
    rw [h2] at h
    rw [PT.set_succ]
    by_cases h0 : n = 0
    · rw [if_pos h0, PT.get_node, if_pos h0]
    · rw [if_neg h0]
      by_cases h1 : n % 2 = 1
      · rw [if_pos h1, PT.get_node, if_neg h0, if_pos h1]; exact ih _ _ (by omega)
      · rw [if_neg h1, PT.get_node, if_neg h0, if_neg h1]; exact ih _ _ (by omega)
theorem PT.get_set_ne {α : Type} : ∀ (k : Nat) (t : PT α) (n m : Nat) (x : α), n ≠ m → (PT.set k t n x).get m = t.get m
  | 0, _, _, _, _, _ => rfl
  | k + 1, t, n, m, x, h => by
    have ih := fun t n m hm => PT.get_set_ne k t n m x hm
    rw [PT.set_succ, PT.get_parts t m]
    by_cases h0 : n = 0
    · rw [if_pos h0, PT.get_node]
      have m0 : m ≠ 0 := by omega
      rw [if_neg m0, if_neg m0]
    · rw [if_neg h0]
      by_cases h1 : n % 2 = 1
      · rw [if_pos h1, PT.get_node]
        by_cases m0 : m = 0
        · rw [if_pos m0, if_pos m0]
        · rw [if_neg m0, if_neg m0]
          by_cases m1 : m % 2 = 1
          · rw [if_pos m1, if_pos m1]; exact ih _ _ _ (by omega)
          · rw [if_neg m1, if_neg m1]
      · rw [if_neg h1, PT.get_node]
        by_cases m0 : m = 0
        · rw [if_pos m0, if_pos m0]
        · rw [if_neg m0, if_neg m0]
          by_cases m1 : m % 2 = 1
          · rw [if_pos m1, if_pos m1]
          · rw [if_neg m1, if_neg m1]; exact ih _ _ _ (by omega)
noncomputable abbrev Tr.set (k : Nat) (t : Tr) (n : Nat) (x : Blk) : Tr := PT.set k t n x
noncomputable abbrev Tr.get (t : Tr) (n : Nat) : Option Blk := PT.get t n
theorem Tr.get_set_eq (k : Nat) (t : Tr) (n : Nat) (x : Blk) (h : n + 1 < 2 ^ k) : (Tr.set k t n x).get n = some x := PT.get_set_eq k t n x h
theorem Tr.get_set_ne (k : Nat) (t : Tr) (n m : Nat) (x : Blk) (h : n ≠ m) : (Tr.set k t n x).get m = t.get m := PT.get_set_ne k t n m x h
end Go.Proofs.Ytnikdnchoahngaa.Am
