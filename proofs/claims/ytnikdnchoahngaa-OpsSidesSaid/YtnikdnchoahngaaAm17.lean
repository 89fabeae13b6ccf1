/- Calls whose outcome has been computed once are known from then on. -/
import Derived.Test.YtnikdnchoahngaaAm16
set_option linter.unusedVariables false
namespace Go.Proofs.Ytnikdnchoahngaa.Am
open Go

theorem RW.grow {m : Mp} {H : Hp} {w w' : World} {base : Nat} (h : RW m H w base) (hs : w.heap.size ≤ w'.heap.size) (hsame : ∀ B, B < w.heap.size → w'.heap[B]? = w.heap[B]?) : RW m H w' base where
  blk := by
    intro r b v B N hb hm h1 h2
    obtain ⟨_, _, _, hlt, _⟩ := h.dom _ _ _ _ hm
    rw [hsame B hlt]
    exact h.blk r b v B N hb hm h1 h2
  dom := by
    intro r v B N hm
    obtain ⟨b, h1, h2, h3, h4⟩ := h.dom _ _ _ _ hm
    exact ⟨b, h1, h2, Nat.lt_of_lt_of_le h3 hs, h4⟩
  sep := h.sep
  fresh := h.fresh
  vle := h.vle
  base_le := Nat.le_trans h.base_le hs
  low := h.low
def plain1 : AV → Bool
  | .int .. | .bool _ | .str _ | .nilp | .nils | .nilf | .nili => true
  | _ => false
def plainV : AV → Bool
  | .tuple xs => xs.all plain1
  | v => plain1 v
theorem plain1_VR {m m' : Mp} {v : AV} {c : Value} (h : plain1 v = true) (hv : VR m v c) : VR m' v c := by
  cases v <;> simp only [plain1] at h <;> first | (cases h; done) | (simp only [VR] at hv ⊢; exact hv)
theorem plains_VR {m m' : Mp} : ∀ {xs : List AV} {cs : List Value}, xs.all plain1 = true → VRs m xs cs → VRs m' xs cs
  | [], cs, _, h => by simpa only [VRs] using h
  | x :: xs, cs, hp, h => by
    simp only [List.all_cons, Bool.and_eq_true] at hp
    simp only [VRs] at h ⊢
    obtain ⟨y, ys, rfl, h1, h2⟩ := h
    exact ⟨y, ys, rfl, plain1_VR hp.1 h1, plains_VR hp.2 h2⟩
theorem plainV_VR {m m' : Mp} {v : AV} {c : Value} (h : plainV v = true) (hv : VR m v c) : VR m' v c := by
  cases v <;> simp only [plainV] at h <;> first | exact plain1_VR h hv | skip
  simp only [VR] at hv ⊢
  obtain ⟨ys, rfl, h2⟩ := hv
  exact ⟨ys, rfl, plains_VR h h2⟩
/-- Arguments that lie in no memory. -/
def plainA : AV → Bool
  | .resid .. => true
  | v => plainV v
theorem plainA_VR {m m' : Mp} {v : AV} {c : Value} (h : plainA v = true) (hv : VR m v c) : VR m' v c := by
  cases v <;> simp only [plainA] at h <;> first | exact plainV_VR h hv | (simp only [VR] at hv ⊢; exact hv)
theorem plainAs_VR {m m' : Mp} : ∀ {xs : List AV} {cs : List Value}, xs.all plainA = true → VRs m xs cs → VRs m' xs cs
  | [], cs, _, h => by simpa only [VRs] using h
  | x :: xs, cs, hp, h => by
    simp only [List.all_cons, Bool.and_eq_true] at hp
    simp only [VRs] at h ⊢
    obtain ⟨y, ys, rfl, h1, h2⟩ := h
    exact ⟨y, ys, rfl, plainA_VR hp.1 h1, plainAs_VR hp.2 h2⟩
def valIs (o : Option Out) (v : AV) : Bool :=
  match o with
  | some (.call (.ret u) _) => beqV u v
  | _ => false
noncomputable def look1 (l : List (List AV × AV)) (xs : List AV) : Option AV :=
  List.rec (motive := fun _ => Option AV) none (fun p _ ih => bif beqVs p.1 xs then some p.2 else ih) l
theorem look1_mem {xs : List AV} {v : AV} : ∀ (l : List (List AV × AV)), look1 l xs = some v → (xs, v) ∈ l
  | [], h => by cases h
  | p :: l, h => by
    have h' : (bif beqVs p.1 xs then some p.2 else look1 l xs) = some v := h
    cases hb : beqVs p.1 xs with
    | true =>
      rw [hb] at h'
      cases h'
      rw [← beqVs_eq _ _ hb]
      exact List.mem_cons_self
    | false => rw [hb] at h'; exact List.mem_cons_of_mem _ (look1_mem l h')
noncomputable def know (C : Cx) (T : PT (List (List AV × AV))) : Cx :=
  ⟨C.ti, C.fn, C.keep, fun n xs => match T.get n with | some l => (match look1 l xs with | some v => some v | none => C.known n xs) | none => C.known n xs, C.plan⟩
def KnownOk (C : Cx) (k n : Nat) (l : List (List AV × AV)) : Prop := ∀ p ∈ l, (valIs (ev C k (.call n p.1 H0)) p.2 && plainV p.2 && p.1.all plainA) = true
theorem know_ok {P : Program} {C : Cx} (ok : CxOk P C planOk) {T : PT (List (List AV × AV))} {k : Nat} (h : T.AllP (KnownOk C k) id) : CxOk P (know C T) planOk := by
  refine ⟨ok.ti, ok.fn, ?_, ok.orders⟩
  intro n xs v hk
  have old : C.known n xs = some v → _ := ok.known n xs v
  have hk' : (match T.get n with | some l => (match look1 l xs with | some v => some v | none => C.known n xs) | none => C.known n xs) = some v := hk
  split at hk'
  · rename_i l hl
    split at hk'
    · rename_i u hu
      cases hk'
      have hm := look1_mem l hu
      have hp := PT.allP_get T id h n l hl (xs, v) hm
      simp only [Bool.and_eq_true] at hp
      obtain ⟨⟨hv, hpl⟩, hpa⟩ := hp
      unfold valIs at hv
      split at hv
      · rename_i u H' he
        have := beqV_eq _ _ hv
        subst this
        obtain ⟨hc, hfn⟩ := ev_sound ok (fun _ _ h => h) k _ _ he
        refine ⟨?_, hfn⟩
        intro H m w base args hargs rw
        refine Calls.mono (hc (fun _ _ => none) w w.heap.size args (plainAs_VR hpa hargs) (RW0 w)) ?_
        rintro e w' ⟨m', q1, q2, q3⟩
        have hsame : ∀ B, B < w.heap.size → w'.heap[B]? = w.heap[B]? := fun B hB => q2.same B hB (fun _ _ _ hm => by cases hm)
        cases e with
        | returned c =>
          simp only [RR] at q3
          exact ⟨m, rw.grow q2.size hsame, ⟨Sub.refl m, fun r v B N hh => .inl ⟨v, N, hh⟩, q2.size, q2.os, q2.tape, q2.output, fun B hB _ => hsame B hB⟩, plainV_VR hpl q3⟩
        | panicked ch => exact q3.elim
        | outgrown => exact q3.elim
      · cases hv
    · exact old hk'
  · exact old hk'
/-- A number, by its rest. -/
theorem VR_resid {m : Mp} (n : Int) (q r : Nat) (h : (n % 18446744073709551616) % q = r) : VR m (.resid .i64 q r) (.int .i64 n) := by
  simp only [VR]
  exact ⟨n, rfl, h, fun e => by cases e⟩
theorem VR_rest {m : Mp} (n : Int) (q : Nat) (hq : 0 < q) : ∃ r, r < q ∧ VR m (.resid .i64 q r) (.int .i64 n) := by
  have h1 : 0 ≤ (n % 18446744073709551616) % (q : Int) := Int.emod_nonneg _ (by omega)
  have h2 : (n % 18446744073709551616) % (q : Int) < q := Int.emod_lt_of_pos _ (by omega)
  exact ⟨((n % 18446744073709551616) % (q : Int)).toNat, by omega, VR_resid n q _ (by omega)⟩
end Go.Proofs.Ytnikdnchoahngaa.Am
