/- Each operation of the abstract machine tells what Go's machine does. Fourth part: operators, conversions. -/
import Derived.Test.YtnikdnchoahngaaAm7
set_option linter.unusedVariables false
set_option linter.unusedSimpArgs false
namespace Go.Proofs.Ytnikdnchoahngaa.Am
open Go

section
variable {P : Program} (w : World) (d : Nat) {t e : TypeId}
theorem eqi_ptr_nil (h : P.underlying t = some (.pointer e)) (a : Addr) : (Op.equalIn (d + 1) t (.pointer (some a)) (.pointer none)).run P w = .ok false w := by simp [Op.equalIn, run_underlying h]
theorem eqi_nil_ptr (h : P.underlying t = some (.pointer e)) (a : Addr) : (Op.equalIn (d + 1) t (.pointer none) (.pointer (some a))).run P w = .ok false w := by simp [Op.equalIn, run_underlying h]
theorem eqi_nil_nil (h : P.underlying t = some (.pointer e)) : (Op.equalIn (d + 1) t (.pointer none) (.pointer none)).run P w = .ok true w := by simp [Op.equalIn, run_underlying h]
theorem eqi_sl_nil (h : P.underlying t = some (.slice e)) (a : Addr) (l c : Nat) : (Op.equalIn (d + 1) t (.slice (some a) l c) (.slice none 0 0)).run P w = .ok false w := by simp [Op.equalIn, run_underlying h]
theorem eqi_nil_sl (h : P.underlying t = some (.slice e)) : (Op.equalIn (d + 1) t (.slice none 0 0) (.slice none 0 0)).run P w = .ok true w := by simp [Op.equalIn, run_underlying h]
theorem eqi_iface_nil {ms : Array (String × TypeId)} (h : P.underlying t = some (.interface ms)) (u : TypeId) (v : Value) : (Op.equalIn (d + 1) t (.iface u v) .nilIface).run P w = .ok false w := by simp [Op.equalIn, run_underlying h]
end

theorem eqK_ok {P : Program} {m : Mp} {w : World} {t : TypeId} {i : Ti} (ht : mkTi P t = some i) {x y : AV} {c d : Value} {r : Bool} (h : eqK i x y = some r) (hx : VR m x c) (hy : VR m y d) (ox oy : Operand) :
    (Op.equal t c d).run P w = .ok r w ∧ (eqGuard .eql t ox oy c d).run P w = .ok () w ∧ (eqGuard .neq t ox oy c d).run P w = .ok () w ∧ (∀ k n k' n', ¬ (c = .int k n ∧ d = .int k' n')) ∧ (∀ s s', ¬ (c = .string s ∧ d = .string s')) := by
  unfold eqK at h
  split at h
  · rename_i hk
    cases h
    simp only [VR] at hx hy
    subst hx; subst hy
    exact ⟨run_equalIn_bool' w 9999 t _ _ (ti_bool ht hk), by simp [eqGuard], by simp [eqGuard], by simp, by simp⟩
  · rename_i hk
    cases h
    simp only [VR] at hx hy
    obtain ⟨B, N, _, rfl⟩ := hx
    subst hy
    exact ⟨eqi_ptr_nil w 9999 (ti_pointer ht hk) _, by simp [eqGuard], by simp [eqGuard], by simp, by simp⟩
  · rename_i hk
    cases h
    simp only [VR] at hx hy
    obtain ⟨B, N, _, rfl⟩ := hy
    subst hx
    exact ⟨eqi_nil_ptr w 9999 (ti_pointer ht hk) _, by simp [eqGuard], by simp [eqGuard], by simp, by simp⟩
  · rename_i hk
    cases h
    simp only [VR] at hx hy
    subst hx; subst hy
    exact ⟨eqi_nil_nil w 9999 (ti_pointer ht hk), by simp [eqGuard], by simp [eqGuard], by simp, by simp⟩
  · rename_i hk
    cases h
    simp only [VR] at hx hy
    obtain ⟨B, N, cap, _, _, _, _, rfl⟩ := hx
    subst hy
    exact ⟨eqi_sl_nil w 9999 (ti_slice ht hk) _ _ _, by simp [eqGuard], by simp [eqGuard], by simp, by simp⟩
  · rename_i hk
    cases h
    simp only [VR] at hx hy
    subst hx; subst hy
    exact ⟨eqi_nil_sl w 9999 (ti_slice ht hk), by simp [eqGuard], by simp [eqGuard], by simp, by simp⟩
  · rename_i hk
    cases h
    obtain ⟨ms, hu⟩ := (ti_iface ht).1 hk
    simp only [VR] at hx hy
    obtain ⟨e, rfl, _⟩ := hx
    subst hy
    exact ⟨eqi_iface_nil w 9999 hu _ _, by simp [eqGuard], by simp [eqGuard], by simp, by simp⟩
  · cases hf : i.flat with
    | none => rw [hf] at h; cases h
    | some ks =>
      rw [hf] at h
      simp only [VR] at hx hy
      obtain ⟨cs, rfl, h1⟩ := hx
      obtain ⟨ds, rfl, h2⟩ := hy
      obtain ⟨j, dd, _, hu, _, _, _, _, _, _, _, hfl⟩ := mkTi_spec ht
      obtain ⟨e1, e2⟩ := agg_eq (w := w) hu (hfl ▸ hf) h1 h2 h
      exact ⟨e1, run_eqGuard_agg w .eql t ox oy cs ds e2, run_eqGuard_agg w .neq t ox oy cs ds e2, by simp, by simp⟩
  · cases h

theorem binOp_eql_run {P : Program} {w : World} {t : TypeId} {c d : Value} {r : Bool} (he : (Op.equal t c d).run P w = .ok r w) (h1 : ∀ k n k' n', ¬ (c = .int k n ∧ d = .int k' n')) (h2 : ∀ s s', ¬ (c = .string s ∧ d = .string s'))
    (h3 : ∀ k a k' b, ¬ (c = .float k a ∧ d = .float k' b)) (h4 : ∀ k a a' k' b b', ¬ (c = .complex k a a' ∧ d = .complex k' b b')) :
    (binOp .eql t c d).run P w = .ok (.bool r) w ∧ (binOp .neq t c d).run P w = .ok (.bool !r) w := by
  constructor
  · unfold binOp
    split <;> first
      | (exfalso; exact h1 _ _ _ _ ⟨rfl, rfl⟩)
      | (exfalso; exact h2 _ _ ⟨rfl, rfl⟩)
      | (exfalso; exact h3 _ _ _ _ ⟨rfl, rfl⟩)
      | (exfalso; exact h4 _ _ _ _ _ _ ⟨rfl, rfl⟩)
      | (simp [he]; done)
      | (simp_all; done)
  · unfold binOp
    split <;> first
      | (exfalso; exact h1 _ _ _ _ ⟨rfl, rfl⟩)
      | (exfalso; exact h2 _ _ ⟨rfl, rfl⟩)
      | (exfalso; exact h3 _ _ _ _ ⟨rfl, rfl⟩)
      | (exfalso; exact h4 _ _ _ _ _ _ ⟨rfl, rfl⟩)
      | (simp [he]; done)
      | (simp_all; done)
theorem VR_nofloat {m : Mp} {x : AV} {c : Value} (hx : VR m x c) (h : x.is = true) : (∀ k a, c ≠ .float k a) ∧ (∀ k a b, c ≠ .complex k a b) := by
  cases x <;> simp only [VR] at hx <;> try (simp [AV.is] at h; done)
  all_goals
    first
      | (subst hx; simp; done)
      | (obtain ⟨ys, rfl, h2⟩ := hx; simp; done)
      | (obtain ⟨ys, zs, rfl, h2⟩ := hx; simp; done)
      | (obtain ⟨B, N, h1, rfl⟩ := hx; simp; done)
      | (obtain ⟨B, N, cap, h1, h2, h3, h4, rfl⟩ := hx; simp; done)
theorem eqK_is {i : Ti} {x y : AV} {r : Bool} (h : eqK i x y = some r) : x.is = true ∧ y.is = true := by
  unfold eqK at h
  split at h <;> first | (cases h; done) | exact ⟨rfl, rfl⟩

theorem binV_ok {P : Program} {C : Cx} (hti : ∀ t i, C.ti t = some i → mkTi P t = some i) {m : Mp} {w : World} {op : BinOp} {t : Nat} {x y v : AV} {c d : Value} (h : binV C op t x y = some v) (hx : VR m x c) (hy : VR m y d) (ox oy : Operand) :
    ∃ e, ((do eqGuard op t ox oy c d; binOp op t c d) : Sem Value).run P w = .ok e w ∧ VR m v e := by
  have noguard : ∀ e, (op ≠ .eql ∧ op ≠ .neq ∨ (∀ xs, c ≠ .agg xs) ∧ c ≠ .nilIface) → (binOp op t c d).run P w = .ok e w → ((do eqGuard op t ox oy c d; binOp op t c d) : Sem Value).run P w = .ok e w := by
    intro e ho hr
    have hg : (eqGuard op t ox oy c d).run P w = .ok () w := by
      unfold eqGuard
      rcases ho with ho | ho
      · cases op <;> simp_all
      · cases op <;> simp <;> cases c <;> simp_all
    simp [hg, hr]
  unfold binV at h
  split at h
  · rename_i k a k' b
    simp only [VR] at hx hy
    subst hx; subst hy
    split at h
    · split at h
      · cases h
      · rename_i hb
        cases h
        refine ⟨_, noguard _ (.inr ⟨by simp, by simp⟩) (by simp only [binOp, Op.shift]; rw [if_neg hb]; rfl), ?_⟩
        simp only [VR, fwrap_eq]
    · split at h
      · cases h
      · rename_i hb
        cases h
        refine ⟨_, noguard _ (.inr ⟨by simp, by simp⟩) (by simp only [binOp, Op.shift]; rw [if_neg hb]; rfl), ?_⟩
        simp only [VR]
    · split at h
      · rename_i e
        subst e
        obtain ⟨e, he, hv⟩ := op_intBin (P := P) (m := m) (w := w) (t := t) h
        exact ⟨e, noguard _ (.inr ⟨by simp, by simp⟩) he, hv⟩
      · cases h
  · rename_i a b
    simp only [VR] at hx hy
    obtain ⟨s, rfl, rfl⟩ := hx
    obtain ⟨u, rfl, rfl⟩ := hy
    obtain ⟨e, he, hv⟩ := op_strBin (P := P) (m := m) (w := w) (t := t) h
    exact ⟨e, noguard _ (.inr ⟨by simp, by simp⟩) he, hv⟩
  · rename_i q r b
    simp only [VR] at hx hy
    obtain ⟨n, rfl, hn, hn2⟩ := hx
    obtain ⟨hn3, hn4⟩ := hn2 (by trivial)
    subst hy
    split at h
    · split at h
      · rename_i hq
        obtain ⟨rfl, hq⟩ := hq
        cases h
        have hb : ¬ (q : Int) = 0 := by omega
        have e1 : n.tmod (q : Int) = (r : Int) := by
          rw [Int.tmod_eq_emod_of_nonneg hn3, ← hn, Int.emod_eq_of_lt hn3 hn4]
        refine ⟨.int .u64 (n.tmod q), noguard _ (.inr ⟨by simp, by simp⟩) (by simp [binOp, Op.intDiv, hb]; omega), ?_⟩
        simp only [VR, e1]
      · cases h
    · cases h
  · have key : ∀ r, eqV C t x y = some r → (eqGuard .eql t ox oy c d).run P w = .ok () w ∧ (eqGuard .neq t ox oy c d).run P w = .ok () w ∧ (binOp .eql t c d).run P w = .ok (.bool r) w ∧ (binOp .neq t c d).run P w = .ok (.bool !r) w := by
      intro r hr
      unfold eqV at hr
      cases ht : C.ti t with
      | none => rw [ht] at hr; cases hr
      | some i =>
        rw [ht] at hr
        obtain ⟨e1, e2, e3, e4, e5⟩ := eqK_ok (w := w) (hti _ _ ht) hr hx hy ox oy
        have hi := eqK_is hr
        have n1 := VR_nofloat hx hi.1
        obtain ⟨b1, b2⟩ := binOp_eql_run (P := P) e1 e4 e5 (fun k a k' b e => n1.1 k a e.1) (fun k a a' k' b b' e => n1.2 k a a' e.1)
        exact ⟨e2, e3, b1, b2⟩
    split at h
    · cases hr : eqV C t x y with
      | none => rw [hr] at h; cases h
      | some r =>
        rw [hr] at h
        cases h
        obtain ⟨e1, e2, e3, e4⟩ := key r hr
        exact ⟨.bool r, by simp [e1, e3], by simp only [VR]⟩
    · cases hr : eqV C t x y with
      | none => rw [hr] at h; cases h
      | some r =>
        rw [hr] at h
        cases h
        obtain ⟨e1, e2, e3, e4⟩ := key r hr
        exact ⟨.bool !r, by simp [e2, e4], by simp only [VR]⟩
    · cases h
theorem unV_ok {P : Program} {m : Mp} {w : World} {op : UnOp} {x v : AV} {c : Value} (h : unV op x = some v) (hx : VR m x c) : ∃ e, (Op.unary op c).run P w = .ok e w ∧ VR m v e := by
  unfold unV at h
  split at h
  · cases h
    simp only [VR] at hx
    subst hx
    exact ⟨_, by simp only [Op.unary, Op.intArith]; rfl, by simp only [VR, fwrap_eq]⟩
  · cases h
    simp only [VR] at hx
    subst hx
    exact ⟨_, by simp only [Op.unary, Op.intBits]; rfl, by simp only [VR, fwrap_eq]⟩
  · cases h
    simp only [VR] at hx
    subst hx
    exact ⟨_, by simp only [Op.unary]; rfl, by simp only [VR]⟩
  · cases h
end Go.Proofs.Ytnikdnchoahngaa.Am
