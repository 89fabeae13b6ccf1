/- The abstract machine's runs tell Go's runs. -/
import Derived.Test.YtnikdnchoahngaaAmDraw
set_option linter.unusedVariables false
set_option linter.unusedSimpArgs false
namespace Go.Proofs.Ytnikdnchoahngaa.Am
open Go

/-- As the code runs: loops by rounds. -/
def Runs (P : Program) (k : Nat) (c : Code) (Q : Exit → Act → World → Prop) (a : Act) (w : World) : Prop :=
  match c with
  | .loop b => Code.rounds P b Q k a w
  | c => c.wp P Q a w
theorem Runs.wp {P : Program} {k : Nat} {c : Code} {Q : Exit → Act → World → Prop} {a : Act} {w : World} (h : Runs P k c Q a w) : c.wp P Q a w := by
  cases c <;> first | exact h | exact wp_loop_rounds k h
/-- What a task's outcome says of Go's runs. -/
def Holds (P : Program) (C : Cx) (pk : Array Oper → List (Nat × Nat × Nat) → Bool) (k : Nat) : Task → Out → Prop
  | .code f c env H, .code e env' H' => ∀ n, wf pk (C.plan f) n c = true → ∀ (m : Mp) (a : Act) (w : World) (base : Nat), FR m env a.tmps → n ≤ a.tmps.size → a.defers = [] → RW m H w base → Runs P k c (Post m w base n e env' H') a w
  | .scope f body c env H, .code e env' H' => ∀ n, wf pk (C.plan f) n body = true → wf pk (C.plan f) n c = true → ∀ (m : Mp) (a : Act) (w : World) (base : Nat), FR m env a.tmps → n ≤ a.tmps.size → a.defers = [] → RW m H w base → ScopeWp P body c (Post m w base n e env' H') a w
  | .call g xs H, .call r H' => CallOk P g xs H r H' ∧ (∃ fn, P.funcs[g]? = some fn ∧ (fn.name == "runtime.NumGoroutine") = false ∧ fn.body.isSome = true)
  | _, _ => False

theorem resV_ok {P : Program} {C : Cx} (hti : ∀ t i, C.ti t = some i → mkTi P t = some i) {m : Mp} {H : Hp} {w : World} {base : Nat} {env : Env} {a : Act} (fr : FR m env a.tmps) (rw : RW m H w base) (g : ResultVar → Sem Value) (hg1 : ∀ t, g (.tmp t) = pure (a.tmps.getD t undef)) (hg2 : ∀ p t, g (.cell p t) = do loadVar t (← asAddr (a.tmps.getD p undef))) : ∀ (l : List ResultVar) (xs : List AV), resV C env H l = some xs →
    ∃ vs : List Value, (l.mapM g).run P w = .ok vs w ∧ VRs m xs vs
  | [], xs, h => by simp only [resV] at h; cases h; exact ⟨[], by simp, by simp [VRs]⟩
  | .tmp t :: l, xs, h => by
    simp only [resV] at h
    cases hl : resV C env H l with
    | none => rw [hl] at h; cases h
    | some ys =>
      rw [hl] at h
      cases h
      obtain ⟨vs, h1, h2⟩ := resV_ok hti fr rw g hg1 hg2 l ys hl
      refine ⟨a.tmps.getD t undef :: vs, ?_, by simp only [VRs]; exact ⟨_, _, rfl, fr.getD t, h2⟩⟩
      simp only [List.mapM_cons, hg1, Sem.run_bind, Sem.run_pure, Result.andThen_ok, h1]
  | .cell p t :: l, xs, h => by
    simp only [resV] at h
    split at h
    · rename_i i r v off ys ht hp hl
      split at h
      · rename_i cs hcs
        split at h
        · rename_i x hx
          cases h
          obtain ⟨vs, h1, h2⟩ := resV_ok hti fr rw g hg1 hg2 l ys hl
          have hv := fr.getD p
          rw [hp] at hv
          obtain ⟨m', w', q1, q2, q3⟩ := op_load (P := P) hti ht hv hcs hx rw
          have hld : ∃ c, (loadVar t (match a.tmps.getD p undef with | .pointer (some b) => b | _ => default)).run P w = .ok c w ∧ VR m x c ∧ ∃ b, a.tmps.getD p undef = .pointer (some b) := by
            have hv' := hv
            simp only [VR] at hv'
            obtain ⟨B, N, hm, e⟩ := hv'
            have hcell := rd_ok hcs rw hm
            have := op_load_run (P := P) hti ht hv hcs hx rw
            obtain ⟨c, hc1, hc2⟩ := this
            rw [e] at hc1
            rw [e]
            exact ⟨c, hc1, hc2, _, rfl⟩
          obtain ⟨c, hc1, hc2, b, hb⟩ := hld
          rw [hb] at hc1
          refine ⟨c :: vs, ?_, by simp only [VRs]; exact ⟨_, _, rfl, hc2, h2⟩⟩
          simp only [List.mapM_cons, hg2, Sem.run_bind, hb, asAddr, Sem.run_pure, Result.andThen_ok, hc1, h1]
        · cases h
      · cases h
    · cases h
theorem results_ok {P : Program} {C : Cx} (hti : ∀ t i, C.ti t = some i → mkTi P t = some i) {m : Mp} {H : Hp} {w : World} {base : Nat} {env : Env} {a : Act} {fn : Func} {xs : List AV} (fr : FR m env a.tmps) (rw : RW m H w base) (h : resV C env H fn.results.toList = some xs) :
    ∃ v, (results fn a.tmps).run P w = .ok v w ∧ VR m (oneRes xs) v := by
  have key : ∀ g : ResultVar → Sem Value, (∀ t, g (.tmp t) = pure (a.tmps.getD t undef)) → (∀ p t, g (.cell p t) = do loadVar t (← asAddr (a.tmps.getD p undef))) → ∃ vs : List Value, (fn.results.mapM g).run P w = .ok vs.toArray w ∧ VRs m xs vs := by
    intro g hg1 hg2
    obtain ⟨vs, h1, h2⟩ := resV_ok (P := P) hti fr rw g hg1 hg2 _ _ h
    exact ⟨vs, by rw [Array.mapM_eq_mapM_toList, Sem.run_map, h1]; rfl, h2⟩
  unfold results
  obtain ⟨vs, hm, h2⟩ := key (fun | .tmp t => pure (a.tmps.getD t undef) | .cell p t => do loadVar t (← asAddr (a.tmps.getD p undef))) (fun _ => rfl) (fun _ _ => rfl)
  have hlen := VRs.len h2
  refine ⟨if h : vs.toArray.size = 1 then vs.toArray[0] else .tuple vs.toArray, ?_, ?_⟩
  · rw [Sem.run_bind]
    erw [hm]
    rfl
  · unfold oneRes
    split
    · simp only [VRs] at h2
      obtain ⟨y, ys, rfl, h3, rfl⟩ := h2
      simpa using h3
    · rename_i hne
      have : ¬ vs.toArray.size = 1 := by
        intro e
        have e1 : xs.length = 1 := by simpa [hlen] using e
        obtain ⟨x, hx⟩ := List.length_eq_one_iff.1 e1
        exact hne x hx
      rw [dif_neg this]
      simp only [VR]
      exact ⟨_, rfl, by simpa using h2⟩
theorem look_args0 : ∀ (xs : List AV) (i t : Nat), look (args0 i xs) t = if i ≤ t then (xs[t - i]?).getD .top else .top
  | [], i, t => by simp [args0, look_nil]
  | x :: xs, i, t => by
    rw [args0, look_put, look_args0 xs (i + 1) t]
    by_cases e : i = t
    · subst e; simp
    · rw [if_neg e]
      by_cases h : i ≤ t
      · rw [if_pos (by omega), if_pos h, show t - i = (t - (i + 1)) + 1 by omega]; simp
      · rw [if_neg (by omega), if_neg h]
theorem FR_args {m : Mp} {xs : List AV} {args rest : Array Value} (h : VRs m xs args.toList) : FR m (args0 0 xs) (args ++ rest) := by
  intro t ht
  rw [look_args0] at ht ⊢
  simp only [Nat.zero_le, if_true, Nat.sub_zero] at ht ⊢
  cases hx : xs[t]? with
  | none => rw [hx] at ht; exact absurd rfl ht
  | some x =>
    obtain ⟨c, hc, hv⟩ := VRs.get h t x hx
    rw [Array.getElem?_toList] at hc
    obtain ⟨hlt, _⟩ := Array.getElem?_eq_some_iff.1 hc
    exact ⟨c, by rw [Array.getElem?_append_left hlt]; exact hc, by simpa using hv⟩

theorem ev_sound {P : Program} {C : Cx} {pk : Array Oper → List (Nat × Nat × Nat) → Bool} (ok : CxOk P C pk) (hpk : ∀ ops pl, pk ops pl = true → planOk ops pl = true) : ∀ (k : Nat) (t : Task) (o : Out), ev C k t = some o → Holds P C pk k t o
  | 0, t, o, h => by cases h
  | k + 1, t, o, h => by
    have ih := ev_sound ok hpk k
    rw [ev_succ] at h
    have hih : IhOk P (ev C k) := fun g xs H r H' hc => ih _ _ hc
    cases t with
    | code f c env H =>
      cases c <;> simp only [evS] at h <;> try (cases h; done)
      case skip =>
        cases h
        intro n hw m a w base fr hn hd rw
        exact wp_skip ⟨m, rw, St.refl _ _ _, fr, hn, hd, trivial⟩
      case label l =>
        cases h
        intro n hw m a w base fr hn hd rw
        exact wp_label ⟨m, rw, St.refl _ _ _, fr, hn, hd, trivial⟩
      case exit id =>
        cases h
        intro n hw m a w base fr hn hd rw
        exact wp_exit ⟨m, rw, St.refl _ _ _, fr, hn, hd, rfl⟩
      case goto l =>
        cases h
        intro n hw m a w base fr hn hd rw
        exact wp_goto ⟨m, rw, St.refl _ _ _, fr, hn, hd, rfl⟩
      case ret =>
        cases h
        intro n hw m a w base fr hn hd rw
        exact wp_ret ⟨m, rw, St.refl _ _ _, fr, hn, hd, trivial⟩
      case region id ops draw =>
        cases draw with
        | false =>
          simp only at h
          obtain ⟨e, env', H', rfl⟩ := opsS_out h
          intro n hw m a w base fr hn hd rw
          simp only [wf, Bool.and_eq_true] at hw
          refine wp_region ?_
          refine opsS_ok ok.ti hih ops.toList (List.range ops.size) ?_ hw.1 env H m w a h fr hn hd rw
          apply List.ext_getElem?
          intro i
          simp only [List.getElem?_map, List.getElem?_range', Array.getElem?_toList]
          by_cases hi : i < ops.size
          · simp [hi]
          · simp [hi, Array.getElem?_eq_none (Nat.le_of_not_lt hi)]
        | true =>
          simp only at h
          obtain ⟨e, env', H', rfl⟩ := drawS_out h
          intro n hw m a w base fr hn hd rw
          simp only [wf, Bool.and_eq_true, Bool.not_true, Bool.false_or] at hw
          exact drawS_ok ok.ti ok.orders hih hw.1 (hpk _ _ hw.2) h fr hn hd rw
      case seq x y =>
        split at h
        · rename_i env1 H1 hx
          have h1 := ih _ _ hx
          have h2 := ih _ _ h
          cases o with
          | call r H' => exact h2.elim
          | code e env' H' =>
            intro n hw m a w base fr hn hd rw
            simp only [wf, Bool.and_eq_true] at hw
            refine wp_seq (wp_mono (h1 n hw.1 m a w base fr hn hd rw).wp ?_)
            rintro x' a' w' ⟨m', q1, q2, q3, q4, q5, q6⟩
            cases x' <;> simp only [ER] at q6
            exact wp_mono (h2 n hw.2 m' a' w' base q3 q4 q5 q1).wp (Post.trans rw.base_le q2)
        · rename_i hne
          have h1 := ih _ _ h
          cases o with
          | call r H' => exact h1.elim
          | code e env' H' =>
            intro n hw m a w base fr hn hd rw
            simp only [wf, Bool.and_eq_true] at hw
            refine wp_seq (wp_mono (h1 n hw.1 m a w base fr hn hd rw).wp ?_)
            intro x' a' w' hp
            cases x' with
            | normal =>
              obtain ⟨m', q1, q2, q3, q4, q5, q6⟩ := hp
              cases e <;> simp only [ER] at q6
              exact absurd h (hne _ _)
            | _ => exact hp
      case cond c x y =>
        split at h
        · rename_i t ht
          have h1 := ih _ _ h
          cases o with
          | call r H' => exact h1.elim
          | code e env' H' =>
            intro n hw m a w base fr hn hd rw
            simp only [wf, Bool.and_eq_true] at hw
            have hc := opnd_ok fr c
            rw [ht] at hc
            simp only [VR] at hc
            refine wp_cond hc ?_
            cases t with
            | true => exact (h1 n hw.1 m a w base fr hn hd rw).wp
            | false => exact (h1 n hw.2 m a w base fr hn hd rw).wp
        · cases h
      case block id b =>
        split at h
        · rename_i j env1 H1 hb
          have h1 := ih _ _ hb
          cases h
          intro n hw m a w base fr hn hd rw
          simp only [wf] at hw
          refine wp_block (wp_mono (h1 n hw m a w base fr hn hd rw).wp ?_)
          rintro x' a' w' ⟨m', q1, q2, q3, q4, q5, q6⟩
          cases x' <;> simp only [ER] at q6
          subst q6
          simp only [Exit.inBlock]
          split
          · rename_i e
            subst e
            exact ⟨m', q1, q2, q3, q4, q5, by simp [ER]⟩
          · rename_i e
            have : Nat.beq j id = false := by
              cases hbq : Nat.beq j id with
              | false => rfl
              | true => exact absurd (Nat.eq_of_beq_eq_true hbq) e
            exact ⟨m', q1, q2, q3, q4, q5, by simp [this, ER]⟩
        · rename_i hne
          have h1 := ih _ _ h
          cases o with
          | call r H' => exact h1.elim
          | code e env' H' =>
            intro n hw m a w base fr hn hd rw
            simp only [wf] at hw
            refine wp_block (wp_mono (h1 n hw m a w base fr hn hd rw).wp ?_)
            intro x' a' w' hp
            cases x' with
            | exit j =>
              obtain ⟨m', q1, q2, q3, q4, q5, q6⟩ := hp
              cases e <;> simp only [ER] at q6
              exact absurd h (hne _ _ _)
            | _ => exact hp
      case loop b =>
        split at h
        · rename_i env1 H1 hb
          have h1 := ih _ _ hb
          have h2 := ih _ _ h
          cases o with
          | call r H' => exact h2.elim
          | code e env' H' =>
            intro n hw m a w base fr hn hd rw
            have hw' : wf pk (C.plan f) n b = true := by simpa only [wf] using hw
            refine wp_mono (h1 n hw' m a w base (fr.less (less_keepOnly _ _)) hn hd rw).wp ?_
            rintro x' a' w' ⟨m', q1, q2, q3, q4, q5, q6⟩
            cases x' <;> simp only [ER] at q6
            exact rounds_mono (Post.trans rw.base_le q2) k a' w' (h2 n hw m' a' w' base q3 q4 q5 q1)
        · rename_i hne
          have h1 := ih _ _ h
          cases o with
          | call r H' => exact h1.elim
          | code e env' H' =>
            intro n hw m a w base fr hn hd rw
            have hw' : wf pk (C.plan f) n b = true := by simpa only [wf] using hw
            refine wp_mono (h1 n hw' m a w base (fr.less (less_keepOnly _ _)) hn hd rw).wp ?_
            intro x' a' w' hp
            cases x' with
            | normal =>
              obtain ⟨m', q1, q2, q3, q4, q5, q6⟩ := hp
              cases e <;> simp only [ER] at q6
              exact absurd h (hne _ _)
            | _ => exact hp
      case scope b =>
        have h1 := ih _ _ h
        cases o with
        | call r H' => exact h1.elim
        | code e env' H' =>
          intro n hw m a w base fr hn hd rw
          have hw' : wf pk (C.plan f) n b = true := by simpa only [wf] using hw
          exact (h1 n hw' hw' m a w base fr hn hd rw).wp
    | scope f body c env H =>
      simp only [evS] at h
      split at h
      · rename_i l env1 H1 hc
        have h1 := ih _ _ hc
        split at h
        · rename_i rest hf
          have h2 := ih _ _ h
          cases o with
          | call r H' => exact h2.elim
          | code e env' H' =>
            intro n hwb hwc m a w base fr hn hd rw
            refine ScopeWp.of (wp_mono (h1 n hwc m a w base fr hn hd rw).wp ?_)
            rintro x' a' w' ⟨m', q1, q2, q3, q4, q5, q6⟩
            cases x' <;> simp only [ER] at q6
            subst q6
            refine ⟨rest, hf, ?_⟩
            have := h2 n hwb (wf_findLabel _ _ _ hf hwb) m' a' w' base q3 q4 q5 q1
            exact ScopeWp.mono (Post.trans rw.base_le q2) this
        · cases h
      · rename_i hne
        have h1 := ih _ _ h
        cases o with
        | call r H' => exact h1.elim
        | code e env' H' =>
          intro n hwb hwc m a w base fr hn hd rw
          refine ScopeWp.of (wp_mono (h1 n hwc m a w base fr hn hd rw).wp ?_)
          intro x' a' w' hp
          cases x' with
          | goto l =>
            obtain ⟨m', q1, q2, q3, q4, q5, q6⟩ := hp
            cases e <;> simp only [ER] at q6
            exact absurd h (hne _ _ _)
          | _ => exact hp
    | call g xs H =>
      simp only [evS] at h
      split at h
      · rename_i v hv
        cases h
        obtain ⟨q1, q2⟩ := ok.known _ _ _ hv
        exact ⟨q1 H, q2⟩
      · cases hf : C.fn g with
        | none => rw [hf] at h; cases h
        | some fn =>
          rw [hf] at h
          simp only at h
          obtain ⟨q1, q2, q3⟩ := ok.fn _ _ hf
          cases hb : fn.body with
          | none => rw [hb] at h; cases h
          | some c =>
            rw [hb] at h q3
            simp only at h q3
            unfold doneS at h
            split at h
            case h_2 => cases h
            rename_i e env' H1 hc
            have h1 := ih _ _ hc
            have key : ∀ (m : Mp) (w : World) (base : Nat) (args : Array Value), VRs m xs args.toList → RW m H w base → c.wp P (Post m w base fn.ntmps e env' H1) { tmps := args ++ Array.replicate (fn.ntmps - args.size) undef, defers := [] } w := by
              intro m w base args hargs rw
              exact (h1 fn.ntmps q3 m _ w base (FR_args hargs) (by simp; omega) rfl rw).wp
            have fin : ∀ r H', o = .call r H' → (∀ (m : Mp) (w : World) (base : Nat) (x : Exit) (a' : Act) (w' : World), RW m H w base → Post m w base fn.ntmps e env' H1 x a' w' → bodyPost P fn (fun x w' => ∃ m', RW m' H' w' base ∧ St m w base m' w' ∧ RR m' r x) x a' w') → Holds P C pk (k + 1) (.call g xs H) o := by
              rintro r H' rfl hfin
              refine ⟨?_, fn, q1, q2, by rw [hb]; rfl⟩
              intro m w base args hargs rw
              exact calls_of_wp q1 hb (wp_mono (key m w base args hargs rw) fun x a' w' hp => hfin m w base x a' w' rw hp)
            have retd : ∀ xs', resV C env' H1 fn.results.toList = some xs' → o = .call (.ret (oneRes xs')) H1 → (e = .normal ∨ e = .ret) → Holds P C pk (k + 1) (.call g xs H) o := by
              intro xs' hr ho he
              refine fin _ _ ho ?_
              rintro m w base x a' w' rw ⟨m', p1, p2, p3, p4, p5, p6⟩
              obtain ⟨v, hv1, hv2⟩ := results_ok (P := P) ok.ti p3 p1 hr
              rcases he with rfl | rfl <;> cases x <;> simp only [ER] at p6 <;> exact ⟨p5, v, hv1, m', p1, p2, hv2⟩
            cases e with
            | normal =>
              simp only at h
              cases hr : resV C env' H1 fn.results.toList with
              | none => rw [hr] at h; cases h
              | some xs' => rw [hr] at h; exact retd xs' hr (by cases h; rfl) (.inl rfl)
            | ret =>
              simp only at h
              cases hr : resV C env' H1 fn.results.toList with
              | none => rw [hr] at h; cases h
              | some xs' => rw [hr] at h; exact retd xs' hr (by cases h; rfl) (.inr rfl)
            | panic v =>
              simp only at h
              refine fin (.panic v) H1 (by cases h; rfl) ?_
              rintro m w base x a' w' rw ⟨m', p1, p2, p3, p4, p5, p6⟩
              cases x <;> simp only [ER] at p6
              exact ⟨p5, m', p1, p2, p6⟩
            | exit id => cases h
            | goto l => cases h
end Go.Proofs.Ytnikdnchoahngaa.Am
