/- From a run of the abstract machine to a call of the program. -/
import Derived.Test.YtnikdnchoahngaaAm15
set_option linter.unusedVariables false
namespace Go.Proofs.Ytnikdnchoahngaa.Am
open Go

/-- What holds of all that a table bears. -/
def PT.AllP {α : Type} (p : Nat → α → Prop) : PT α → (Nat → Nat) → Prop
  | .nil, _ => True
  | .node l b r, g => (match b with | some x => p (g 0) x | none => True) ∧ l.AllP p (fun n => g (2 * n + 1)) ∧ r.AllP p (fun n => g (2 * n + 2))
theorem PT.allP_get {α : Type} {p : Nat → α → Prop} : ∀ (t : PT α) (g : Nat → Nat), t.AllP p g → ∀ (n : Nat) (x : α), t.get n = some x → p (g n) x
  | .nil, g, _, n, x, h => by cases h
  | .node l b r, g, ⟨h1, h2, h3⟩, n, x, h => by
    rw [PT.get_node] at h
    by_cases h0 : n = 0
    · rw [if_pos h0] at h
      subst h0
      subst h
      exact h1
    · rw [if_neg h0] at h
      by_cases hm : n % 2 = 1
      · rw [if_pos hm] at h
        have := PT.allP_get l _ h2 _ _ h
        rwa [show 2 * (n / 2) + 1 = n by omega] at this
      · rw [if_neg hm] at h
        have := PT.allP_get r _ h3 _ _ h
        rwa [show 2 * (n / 2 - 1) + 2 = n by omega] at this
def PT.allB {α : Type} (p : Nat → α → Bool) : PT α → (Nat → Nat) → Bool
  | .nil, _ => true
  | .node l b r, g => (match b with | some x => p (g 0) x | none => true) && l.allB p (fun n => g (2 * n + 1)) && r.allB p (fun n => g (2 * n + 2))
theorem PT.allB_get {α : Type} {p : Nat → α → Bool} : ∀ (t : PT α) (g : Nat → Nat), t.allB p g = true → ∀ (n : Nat) (x : α), t.get n = some x → p (g n) x = true
  | .nil, g, _, n, x, h => by cases h
  | .node l b r, g, hh, n, x, h => by
    simp only [PT.allB, Bool.and_eq_true] at hh
    obtain ⟨⟨h1, h2⟩, h3⟩ := hh
    rw [PT.get_node] at h
    by_cases h0 : n = 0
    · rw [if_pos h0] at h
      subst h0
      subst h
      exact h1
    · rw [if_neg h0] at h
      by_cases hm : n % 2 = 1
      · rw [if_pos hm] at h
        have := PT.allB_get l _ h2 _ _ h
        rwa [show 2 * (n / 2) + 1 = n by omega] at this
      · rw [if_neg hm] at h
        have := PT.allB_get r _ h3 _ _ h
        rwa [show 2 * (n / 2 - 1) + 2 = n by omega] at this
def beqTi (i j : Ti) : Bool :=
  Nat.beq i.size j.size && Nat.beq i.bytes j.bytes && (match i.zero, j.zero with | some a, some b => beqVs a b | none, none => true | _, _ => false) && decide (i.kind = j.kind) && decide (i.fields = j.fields) && Nat.beq i.elem j.elem && Nat.beq i.len j.len && decide (i.flat = j.flat)
theorem beqTi_eq {i j : Ti} (h : beqTi i j = true) : i = j := by
  obtain ⟨a1, a2, a3, a4, a5, a6, a7, a8⟩ := i
  obtain ⟨b1, b2, b3, b4, b5, b6, b7, b8⟩ := j
  simp only [beqTi, Bool.and_eq_true, decide_eq_true_eq] at h
  obtain ⟨⟨⟨⟨⟨⟨⟨h1, h2⟩, h3⟩, h4⟩, h5⟩, h6⟩, h7⟩, h8⟩ := h
  have h1 := Nat.eq_of_beq_eq_true h1
  have h2 := Nat.eq_of_beq_eq_true h2
  have h6 := Nat.eq_of_beq_eq_true h6
  have h7 := Nat.eq_of_beq_eq_true h7
  have h3' : a3 = b3 := by
    cases a3 <;> cases b3 <;> simp only at h3 <;> first | rfl | cases h3 | exact congrArg some (beqVs_eq _ _ h3)
  subst h1 h2 h3' h4 h5 h6 h7 h8
  rfl
def tiOk (P : Program) (t : Nat) (i : Ti) : Bool := match mkTi P t with | some j => beqTi i j | none => false
theorem tiOk_eq {P : Program} {t : Nat} {i : Ti} (h : tiOk P t i = true) : mkTi P t = some i := by
  unfold tiOk at h
  split at h
  · rename_i j hj
    rw [hj, beqTi_eq h]
  · cases h
def FnOk (P : Program) (C : Cx) (n : Nat) (fn : Func) : Prop := P.funcs[n]? = some fn ∧ (fn.name == "runtime.NumGoroutine") = false ∧ (match fn.body with | some c => wf planOk (C.plan n) fn.ntmps c | none => false) = true

/-- Nothing is known of memory. -/
theorem RW0 (w : World) : RW (fun _ _ => none) H0 w w.heap.size where
  blk := by intro r b v B N hb hm; cases hm
  dom := by intro r v B N hm; cases hm
  sep := by intro r v B N r' v' N' hm; cases hm
  fresh := by intro r _; rfl
  vle := by intro r v B N hm; cases hm
  base_le := Nat.le_refl _
  low := by show 0 ≤ roots; unfold roots; omega
theorem isTrue_eq {o : Option Out} (h : isTrue o = true) : ∃ H', o = some (.call (.ret (.bool true)) H') := by
  unfold isTrue at h
  split at h
  · rename_i H'; exact ⟨_, rfl⟩
  · cases h
/-- A law that comes out true. -/
theorem walk_of {P : Program} {C : Cx} (ok : CxOk P C planOk) {k n : Nat} {xs : List AV} {args : Array Value} (h : isTrue (ev C k (.call n xs H0)) = true) (hargs : VRs (fun _ _ => none) xs args.toList) (w : World) :
    Calls P n args w fun e w' => e = .returned (.bool true) ∧ RowKit.Below w.heap.size w w' := by
  obtain ⟨H', he⟩ := isTrue_eq h
  obtain ⟨hc, _⟩ := ev_sound ok (fun _ _ h => h) k _ _ he
  refine Calls.mono (hc _ w w.heap.size args hargs (RW0 w)) ?_
  rintro e w' ⟨m', q1, q2, q3⟩
  cases e with
  | returned v =>
    simp only [RR, VR] at q3
    exact ⟨by rw [q3], q2.below (Nat.le_refl _)⟩
  | panicked ch => exact q3.elim
  | outgrown => exact q3.elim
end Go.Proofs.Ytnikdnchoahngaa.Am
