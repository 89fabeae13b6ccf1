/- The abstract machine's runs tell Go's runs: rules, and what has to hold of the tables. -/
import Derived.Test.YtnikdnchoahngaaAm13
import Derived.Test.YtnikdnchoahngaaAmRun
import Derived.ScopeJumps
set_option linter.unusedVariables false
set_option linter.unusedSimpArgs false
namespace Go.Proofs.Ytnikdnchoahngaa.Am
open Go

/-- The rest of a scope runs: by a goto to one of its labels it goes on there. -/
def ScopeWp (P : Program) (body c : Code) (Q : Exit → Act → World → Prop) (a : Act) (w : World) : Prop :=
  ∀ (b : Frame) (k : List Item) (cs : List Frame), ∃ e a' w', Q e a' w' ∧ Arrives P (lone (b.at a (.code c :: .inScope body :: k)) cs w) b k cs e a' w'
theorem ScopeWp.of {P : Program} {body c : Code} {Q : Exit → Act → World → Prop} {a : Act} {w : World} (h : c.wp P (fun e a1 w1 => match e with | .goto l => ∃ rest, findLabel body l = some rest ∧ ScopeWp P body rest Q a1 w1 | e => Q e a1 w1) a w) : ScopeWp P body c Q a w := by
  intro b k cs
  obtain ⟨e, a₁, w₁, hq, harr⟩ := h b (.inScope body :: k) cs
  cases e with
  | normal => exact ⟨.normal, a₁, w₁, hq, Steps.trans harr (.one step_inScope)⟩
  | exit id => exact ⟨.exit id, a₁, w₁, hq, fun k' hk => harr k' (by simp [exitTo, hk])⟩
  | goto l =>
    obtain ⟨rest, hf, hr⟩ := hq
    obtain ⟨e₂, a₂, w₂, hq₂, harr₂⟩ := hr b k cs
    exact ⟨e₂, a₂, w₂, hq₂, .of_steps (harr _ (by simp [gotoIn, hf])) harr₂⟩
  | ret => exact ⟨_, a₁, w₁, hq, harr⟩
  | panic ch => exact ⟨_, a₁, w₁, hq, harr⟩
  | outgrown => exact ⟨_, a₁, w₁, hq, harr⟩
theorem ScopeWp.wp {P : Program} {c : Code} {Q : Exit → Act → World → Prop} {a : Act} {w : World} (h : ScopeWp P c c Q a w) : (Code.scope c).wp P Q a w := by
  intro b k cs
  obtain ⟨e, a', w', hq, harr⟩ := h b k cs
  exact ⟨e, a', w', hq, .of_steps (.one step_scope) harr⟩
theorem rounds_mono {P : Program} {c : Code} {Q Q' : Exit → Act → World → Prop} (hq : ∀ e a w, Q e a w → Q' e a w) : ∀ (n : Nat) (a : Act) (w : World), Code.rounds P c Q n a w → Code.rounds P c Q' n a w
  | 0, _, _, h => h.elim
  | n + 1, a, w, h => wp_mono h fun e a' w' he => by
    cases e <;> first | exact rounds_mono hq n _ _ he | exact hq _ _ _ he

theorem upon_mono2 {P : Program} {o : Oper} {a : Act} {K K' : Act → World → Prop} {Q Q' : Exit → Act → World → Prop} (hk : ∀ a w, K a w → K' a w) (hq : ∀ e a w, Q e a w → Q' e a w) (r : Result Next) (h : o.upon P a K Q r) : o.upon P a K' Q' r := by
  cases r with
  | ok n w' =>
    cases n <;> simp only [Oper.upon] at h ⊢ <;>
      first
        | exact hk _ _ h
        | exact Rows.mono h (fun _ _ he => hk _ _ he)
        | skip
    refine Calls.mono h fun e w'' he => ?_
    cases e with
    | returned v => exact hk _ _ he
    | panicked c => exact hq _ _ _ he
    | outgrown => obtain ⟨a', w', he⟩ := he; exact ⟨a', w', hq _ _ _ he⟩
  | halt x w' => cases x <;> simp only [Oper.upon] at h ⊢ <;> exact hq _ _ _ h
theorem wpOps_mono {P : Program} {ops : Array Oper} {Q Q' : Exit → Act → World → Prop} (hq : ∀ e a w, Q e a w → Q' e a w) : ∀ (l : List Nat) (a : Act) (w : World), wpOps P ops Q l a w → wpOps P ops Q' l a w
  | [], a, w, h => hq _ _ _ h
  | i :: l, a, w, h => by
    simp only [wpOps] at h ⊢
    split at h
    · exact wpOps_mono hq l _ _ h
    · split at h
      · rename_i hw
        rw [if_pos hw]
        rcases h with h | ⟨h1, a', w', h2⟩
        · exact .inl (upon_mono2 (fun a w => wpOps_mono hq l a w) hq _ h)
        · exact .inr ⟨h1, a', w', hq _ _ _ h2⟩
      · rename_i hw
        rw [if_neg hw]
        exact wpOps_mono hq l _ _ h

def dstOk (n : Nat) (o : Oper) : Bool := match o.dst with | some d => Nat.blt d n | none => true
/-- What is asked of a function's code: slots within its frame; regions that draw are planned. -/
def wf (pk : Array Oper → List (Nat × Nat × Nat) → Bool) (pl : Nat → List (Nat × Nat × Nat)) (n : Nat) : Code → Bool
  | .region id ops draw => ops.toList.all (dstOk n) && (!draw || pk ops (pl id))
  | .seq a b => wf pk pl n a && wf pk pl n b
  | .cond _ a b => wf pk pl n a && wf pk pl n b
  | .block _ b => wf pk pl n b
  | .loop b => wf pk pl n b
  | .scope b => wf pk pl n b
  | _ => true
theorem wf_findLabel {pk : Array Oper → List (Nat × Nat × Nat) → Bool} {pl : Nat → List (Nat × Nat × Nat)} {n : Nat} : ∀ (c : Code) (l : Nat) (rest : Code), findLabel c l = some rest → wf pk pl n c = true → wf pk pl n rest = true
  | .seq a b, l, rest, h, hw => by
    simp only [findLabel] at h
    simp only [wf, Bool.and_eq_true] at hw
    split at h
    · rename_i r hr
      cases h
      simp only [wf, Bool.and_eq_true]
      exact ⟨wf_findLabel a l r hr hw.1, hw.2⟩
    · exact wf_findLabel b l rest h hw.2
  | .label l', l, rest, h, _ => by
    simp only [findLabel] at h
    split at h
    · cases h; rfl
    · cases h
  | .skip, _, _, h, _ | .region .., _, _, h, _ | .cond .., _, _, h, _ | .block .., _, _, h, _ | .loop _, _, _, h, _ | .rangeFunc .., _, _, h, _ | .exit _, _, _, h, _ | .scope _, _, _, h, _ | .goto _, _, _, h, _ | .ret, _, _, h, _ | .refuse _, _, _, h, _ => by simp [findLabel] at h

/-- How an end as told stands to an end. -/
def ER (m : Mp) : Ex → Exit → Prop
  | .normal, .normal => True
  | .exit i, .exit j => i = j
  | .goto i, .goto j => i = j
  | .ret, .ret => True
  | .panic v, .panic ch => ∃ c, ch = [{ v := c, recovered := false }] ∧ VR m v c
  | _, _ => False
def RR (m : Mp) : Rs → Ending → Prop
  | .ret v, .returned c => VR m v c
  | .panic v, .panicked ch => ∃ c, ch = [{ v := c, recovered := false }] ∧ VR m v c
  | _, _ => False
/-- After a piece of code. -/
def Post (m : Mp) (w : World) (base n : Nat) (e : Ex) (env : Env) (H : Hp) : Exit → Act → World → Prop := fun x a' w' =>
  ∃ m', RW m' H w' base ∧ St m w base m' w' ∧ FR m' env a'.tmps ∧ n ≤ a'.tmps.size ∧ a'.defers = [] ∧ ER m' e x
theorem Post.trans {m m1 : Mp} {w w1 : World} {base n : Nat} {e : Ex} {env : Env} {H : Hp} (hb : base ≤ w.heap.size) (s : St m w base m1 w1) : ∀ x a' w', Post m1 w1 base n e env H x a' w' → Post m w base n e env H x a' w' := by
  rintro x a' w' ⟨m', h1, h2, h3⟩
  exact ⟨m', h1, s.trans hb h2, h3⟩
/-- A call is told. -/
def CallOk (P : Program) (g : Nat) (xs : List AV) (H : Hp) (r : Rs) (H' : Hp) : Prop := ∀ (m : Mp) (w : World) (base : Nat) (args : Array Value), VRs m xs args.toList → RW m H w base →
  Calls P g args w fun x w' => ∃ m', RW m' H' w' base ∧ St m w base m' w' ∧ RR m' r x
/-- What the tables must tell. -/
structure CxOk (P : Program) (C : Cx) (pk : Array Oper → List (Nat × Nat × Nat) → Bool) : Prop where
  ti : ∀ t i, C.ti t = some i → mkTi P t = some i
  fn : ∀ n fn, C.fn n = some fn → P.funcs[n]? = some fn ∧ (fn.name == "runtime.NumGoroutine") = false ∧ (match fn.body with | some c => wf pk (C.plan n) fn.ntmps c | none => false) = true
  known : ∀ n xs v, C.known n xs = some v → (∀ H, CallOk P n xs H (.ret v) H) ∧ (∃ fn, P.funcs[n]? = some fn ∧ (fn.name == "runtime.NumGoroutine") = false ∧ fn.body.isSome = true)
  orders : P.follows .mixedOrders = true

theorem wanted_ok {m : Mp} {env : Env} {a : Act} {ops : Array Oper} {o : Oper} {b : Bool} (h : wantedV o ops.toList env = some b) (fr : FR m env a.tmps) : Region.wanted o (yielded ops a.tmps) = b := by
  unfold wantedV at h
  unfold Region.wanted
  split at h <;> rename_i hg <;> rw [hg]
  · cases h; rfl
  · rename_i j want
    simp only
    rw [nth_eq] at h
    cases hp : ops.toList[j]? with
    | none => rw [hp] at h; cases h
    | some p =>
      rw [hp] at h
      simp only at h
      cases hd : p.dst with
      | none => rw [hd] at h; cases h
      | some d =>
        rw [hd] at h
        simp only at h
        split at h
        · rename_i t hl
          cases h
          obtain ⟨c, h1, h2⟩ := fr d (by rw [hl]; intro e; cases e)
          rw [hl] at h2
          simp only [VR] at h2
          subst h2
          rw [Array.getElem?_toList] at hp
          simp only [yielded, hp, Option.bind_some, hd, h1]
          cases t <;> cases want <;> rfl
        · rename_i hl
          cases h
          obtain ⟨c, h1, h2⟩ := fr d (by rw [hl]; intro e; cases e)
          rw [hl] at h2
          simp only [VR, VRs] at h2
          obtain ⟨ys, rfl, _⟩ := h2
          rw [Array.getElem?_toList] at hp
          simp only [yielded, hp, Option.bind_some, hd, h1]
          rfl
        · cases h
theorem act_put_frame {m : Mp} {env : Env} {a : Act} {n : Nat} (fr : FR m env a.tmps) (hn : n ≤ a.tmps.size) (hd : a.defers = []) (o : Oper) (ho : dstOk n o = true) (v : AV) (c : Value) (hv : VR m v c) :
    FR m (putV env o.dst v) (a.put o.dst c).tmps ∧ n ≤ (a.put o.dst c).tmps.size ∧ (a.put o.dst c).defers = [] := by
  unfold dstOk at ho
  cases h : o.dst with
  | none => exact ⟨fr, hn, hd⟩
  | some d =>
    rw [h] at ho
    simp only [putV, Act.put]
    have hlt : d < n := by simpa using ho
    exact ⟨fr.put d v c hv (.inl (Nat.lt_of_lt_of_le hlt hn)), by simpa using hn, hd⟩
theorem VR_undef (m : Mp) : VR m (.tuple []) undef := by simp [VR, VRs, undef]
theorem VR_top (m : Mp) (c : Value) : VR m .top c := by simp [VR]

/-- One operation, told. -/
def StepOk (P : Program) (o : Oper) (a : Act) (m : Mp) (w : World) (base : Nat) : So → Prop
  | .val v H' => ∀ (K : Act → World → Prop) (Q : Exit → Act → World → Prop), (∀ m' w' c, RW m' H' w' base → St m w base m' w' → VR m' v c → K (a.put o.dst c) w') → o.wp P a w K Q
  | .panic v H' => ∀ (K : Act → World → Prop) (Q : Exit → Act → World → Prop), (∀ m' w' c, RW m' H' w' base → St m w base m' w' → VR m' v c → Q (.panic [{ v := c, recovered := false }]) a w') → o.wp P a w K Q
theorem stepOk_opV {P : Program} {C : Cx} (hti : ∀ t i, C.ti t = some i → mkTi P t = some i) {m : Mp} {H H' : Hp} {w : World} {base : Nat} {env : Env} {a : Act} {o : Oper} {v : AV} (h : opV C env H o = some (v, H')) (fr : FR m env a.tmps) (rw : RW m H w base) : StepOk P o a m w base (.val v H') := by
  intro K Q hK
  obtain ⟨m', w', h1, h2, h3⟩ := opV_sound hti h fr rw
  unfold Oper.wp
  rcases h3 with ⟨c, hr, hv⟩ | ⟨hr, rfl⟩
  · rw [hr]; exact hK m' w' c h1 h2 hv
  · rw [hr]; exact hK m' w' undef h1 h2 (VR_top _ _)
/-- Calls are told by what runs them. -/
def IhOk (P : Program) (ih : Task → Option Out) : Prop := ∀ g xs H r H', ih (.call g xs H) = some (.call r H') → CallOk P g xs H r H' ∧ (∃ fn, P.funcs[g]? = some fn ∧ (fn.name == "runtime.NumGoroutine") = false ∧ fn.body.isSome = true)
theorem enter_ok {P : Program} {ih : Task → Option Out} (hih : IhOk P ih) {m : Mp} {H : Hp} {w : World} {base : Nat} {env : Env} {a : Act} {o : Oper} {c : Call} {g : Operand} {r : So} (ho : o.op = .call c) (hg : c.callee = .value g) (h : enter ih (opnd env g) (opnds env c.args.toList) H = some r) (fr : FR m env a.tmps) (rw : RW m H w base) : StepOk P o a m w base r := by
  have hgv := opnd_ok fr g
  have hargs := opnds_ok fr c.args.toList
  rw [← opnds_eq] at hargs
  unfold enter at h
  split at h
  · rename_i f first caps hf
    rw [hf] at hgv
    simp only [VR] at hgv
    obtain ⟨ys, zs, hgv, hy, hz⟩ := hgv
    have hall : VRs m (first ++ opnds env c.args.toList ++ caps) (ys ++ c.args.map a.eval ++ zs).toList := by
      simp only [Array.toList_append, Array.toList_map]
      exact VRs.append (VRs.append hy hargs) hz
    have hexec : ∀ fn, P.funcs[f]? = some fn → (fn.name == "runtime.NumGoroutine") = false → fn.body.isSome = true → (execOp a.eval o).run P w = .ok (.enter f (ys ++ c.args.map a.eval ++ zs)) w := by
      intro fn h1 h2 h3
      have h2' : ¬ fn.name = "runtime.NumGoroutine" := by simpa using h2
      have h3' : ¬ fn.body = none := by intro e; rw [e] at h3; cases h3
      simp [execOp, ho, resolve, hg, hgv, Deferred.ofValue, invoke, callFunc, h1, h2', h3']
    split at h
    · rename_i v H' hc
      cases h
      obtain ⟨hcall, fn, e1, e2, e3⟩ := hih _ _ _ _ _ hc
      intro K Q hK
      unfold Oper.wp
      rw [hexec fn e1 e2 e3]
      refine Calls.mono (hcall m w base _ hall rw) ?_
      rintro x w' ⟨m', q1, q2, q3⟩
      cases x with
      | returned v' => exact hK m' w' v' q1 q2 q3
      | panicked ch => exact q3.elim
      | outgrown => exact q3.elim
    · rename_i v H' hc
      cases h
      obtain ⟨hcall, fn, e1, e2, e3⟩ := hih _ _ _ _ _ hc
      intro K Q hK
      unfold Oper.wp
      rw [hexec fn e1 e2 e3]
      refine Calls.mono (hcall m w base _ hall rw) ?_
      rintro x w' ⟨m', q1, q2, q3⟩
      cases x with
      | returned v' => exact q3.elim
      | panicked ch =>
        obtain ⟨c', rfl, q4⟩ := q3
        exact hK m' w' c' q1 q2 q4
      | outgrown => exact q3.elim
    · cases h
  · cases h
theorem opS_ok {P : Program} {C : Cx} (hti : ∀ t i, C.ti t = some i → mkTi P t = some i) {ih : Task → Option Out} (hih : IhOk P ih) {m : Mp} {H : Hp} {w : World} {base : Nat} {env : Env} {a : Act} {o : Oper} {r : So} (h : opS C ih env H o = some r) (fr : FR m env a.tmps) (rw : RW m H w base) : StepOk P o a m w base r := by
  have hopV : ∀ {r : So}, (match opV C env H o with | some (v, H') => some (So.val v H') | none => none) = some r → StepOk P o a m w base r := by
    intro r h
    cases hv : opV C env H o with
    | none => rw [hv] at h; cases h
    | some p => obtain ⟨v, H'⟩ := p; rw [hv] at h; cases h; exact stepOk_opV hti hv fr rw
  unfold opS at h
  split at h
  · rename_i x hx
    split at h
    · rename_i t v hv
      cases h
      intro K Q hK
      have h1 := opnd_ok fr x
      rw [hv] at h1
      have h2 := h1
      simp only [VR] at h2
      obtain ⟨d, hd, _⟩ := h2
      unfold Oper.wp
      have : (execOp a.eval o).run P w = .halt (.panic (.iface t d)) w := by simp [execOp, hx, Instr.panic, hd, goPanic]
      rw [this]
      exact hK m w _ rw (St.refl _ _ _) (hd ▸ h1)
    · cases h
  · rename_i c hc
    split at h
    · rename_i g hg
      exact enter_ok hih hc hg h fr rw
    · exact hopV h
  · exact hopV h
theorem opsS_ok {P : Program} {C : Cx} (hti : ∀ t i, C.ti t = some i → mkTi P t = some i) {ih : Task → Option Out} (hih : IhOk P ih) {ops : Array Oper} {n base : Nat} {e : Ex} {env' : Env} {H' : Hp} : ∀ (l : List Oper) (ix : List Nat), ix.map (ops[·]?) = l.map some → l.all (dstOk n) = true → ∀ (env : Env) (H : Hp) (m : Mp) (w : World) (a : Act),
    opsS C ih ops.toList l env H = some (.code e env' H') → FR m env a.tmps → n ≤ a.tmps.size → a.defers = [] → RW m H w base → wpOps P ops (Post m w base n e env' H') ix a w
  | [], ix, hix, _, env, H, m, w, a, h, fr, hn, hd, rw => by
    have : ix = [] := by simpa using hix
    subst this
    have h' : some (Out.code .normal env H) = some (.code e env' H') := h
    cases h'
    exact ⟨m, rw, St.refl _ _ _, fr, hn, hd, trivial⟩
  | o :: l, ix, hix, hds, env, H, m, w, a, h, fr, hn, hd, rw => by
    cases ix with
    | nil => simp at hix
    | cons i ix =>
      simp only [List.map_cons, List.cons.injEq] at hix
      simp only [List.all_cons, Bool.and_eq_true] at hds
      have h' : (match wantedV o ops.toList env with
        | none => none
        | some false => opsS C ih ops.toList l (putV env o.dst (.tuple [])) H
        | some true => match opS C ih env H o with
          | some (.val v H') => opsS C ih ops.toList l (putV env o.dst v) H'
          | some (.panic v H') => some (.code (.panic v) env H')
          | none => none) = some (.code e env' H') := h
      simp only [wpOps, hix.1]
      cases hw : wantedV o ops.toList env with
      | none => rw [hw] at h'; cases h'
      | some b =>
        rw [hw] at h'
        rw [wanted_ok hw fr]
        cases b with
        | false =>
          simp only [Bool.false_eq_true, if_false] at h' ⊢
          obtain ⟨f1, f2, f3⟩ := act_put_frame fr hn hd o hds.1 (.tuple []) undef (VR_undef _)
          exact opsS_ok hti hih l ix hix.2 hds.2 _ _ m w _ h' f1 f2 f3 rw
        | true =>
          simp only [if_true] at h' ⊢
          refine .inl ?_
          cases hs : opS C ih env H o with
          | none => rw [hs] at h'; cases h'
          | some r =>
            rw [hs] at h'
            have hstep := opS_ok hti hih hs fr rw
            cases r with
            | val v H1 =>
              refine hstep _ _ fun m' w' c q1 q2 q3 => ?_
              obtain ⟨f1, f2, f3⟩ := act_put_frame (fr.mono q2.sub) hn hd o hds.1 v c q3
              have := opsS_ok hti hih l ix hix.2 hds.2 _ _ m' w' _ h' f1 f2 f3 q1
              exact wpOps_mono (Post.trans rw.base_le q2) _ _ _ this
            | panic v H1 =>
              simp only at h'
              cases h'
              refine hstep _ _ fun m' w' c q1 q2 q3 => ?_
              exact ⟨m', q1, q2, fr.mono q2.sub, hn, hd, c, rfl, q3⟩
end Go.Proofs.Ytnikdnchoahngaa.Am
