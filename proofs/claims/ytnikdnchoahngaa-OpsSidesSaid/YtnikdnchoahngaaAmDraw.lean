/- Regions whose order is drawn: every order ends alike. -/
import Derived.Test.YtnikdnchoahngaaAm14
import Derived.Orders
set_option linter.unusedVariables false
set_option linter.unusedSimpArgs false
namespace Go.Proofs.Ytnikdnchoahngaa.Am
open Go

theorem opsS_out {C : Cx} {ih : Task → Option Out} {all : List Oper} : ∀ {l : List Oper} {env : Env} {H : Hp} {o : Out}, opsS C ih all l env H = some o → ∃ e env' H', o = .code e env' H'
  | [], env, H, o, h => by
    have h' : some (Out.code .normal env H) = some o := h
    cases h'
    exact ⟨_, _, _, rfl⟩
  | p :: l, env, H, o, h => by
    have h' : (match wantedV p all env with
        | none => none
        | some false => opsS C ih all l (putV env p.dst (.tuple [])) H
        | some true => match opS C ih env H p with
          | some (.val v H') => opsS C ih all l (putV env p.dst v) H'
          | some (.panic v H') => some (.code (.panic v) env H')
          | none => none) = some o := h
    split at h'
    · cases h'
    · exact opsS_out h'
    · split at h'
      · exact opsS_out h'
      · cases h'; exact ⟨_, _, _, rfl⟩
      · cases h'
theorem drawS_out {C : Cx} {ih : Task → Option Out} {ops : Array Oper} {pl : List (Nat × Nat × Nat)} {env : Env} {H : Hp} {o : Out} (h : drawS C ih ops pl env H = some o) : ∃ e env' H', o = .code e env' H' := by
  unfold drawS at h
  split at h
  · rename_i env' hs _
    cases hq : alikeL C ops.toList env' (H :: hs) ops.toList pl <;> rw [hq] at h <;> simp only [cond_true, cond_false] at h <;> cases h
    exact ⟨_, _, _, rfl⟩
  · cases h
theorem ScopeWp.mono {P : Program} {body c : Code} {Q Q' : Exit → Act → World → Prop} {a : Act} {w : World} (hq : ∀ e a w, Q e a w → Q' e a w) (h : ScopeWp P body c Q a w) : ScopeWp P body c Q' a w :=
  fun b k cs => let ⟨e, a', w', q, r⟩ := h b k cs; ⟨e, a', w', hq _ _ _ q, r⟩

mutual
theorem beqV_eq : ∀ (x y : AV), beqV x y = true → x = y
  | .top, y, h => by cases y <;> simp [beqV] at h ⊢
  | .int k n, y, h => by cases y <;> simp [beqV] at h ⊢; exact h
  | .resid k q r, y, h => by cases y <;> simp [beqV] at h ⊢; exact ⟨h.1.1, h.1.2, h.2⟩
  | .bool a, y, h => by cases y <;> simp [beqV] at h ⊢; exact h
  | .str a, y, h => by cases y <;> simp [beqV] at h ⊢; exact (eqL_iff _ _).1 h
  | .nilp, y, h => by cases y <;> simp [beqV] at h ⊢
  | .ptr r v o, y, h => by cases y <;> simp [beqV] at h ⊢; exact ⟨h.1.1, h.1.2, h.2⟩
  | .nils, y, h => by cases y <;> simp [beqV] at h ⊢
  | .slice r v o l z, y, h => by cases y <;> simp [beqV] at h ⊢; exact ⟨h.1.1.1.1, h.1.1.1.2, h.1.1.2, h.1.2, h.2⟩
  | .agg a, y, h => by cases y <;> simp [beqV] at h ⊢; exact beqVs_eq _ _ h
  | .tuple a, y, h => by cases y <;> simp [beqV] at h ⊢; exact beqVs_eq _ _ h
  | .func f a b, y, h => by cases y <;> simp [beqV] at h ⊢; exact ⟨h.1.1, beqVs_eq _ _ h.1.2, beqVs_eq _ _ h.2⟩
  | .nilf, y, h => by cases y <;> simp [beqV] at h ⊢
  | .iface t a, y, h => by cases y <;> simp [beqV] at h ⊢; exact ⟨h.1, beqV_eq _ _ h.2⟩
  | .nili, y, h => by cases y <;> simp [beqV] at h ⊢
theorem beqVs_eq : ∀ (x y : List AV), beqVs x y = true → x = y
  | [], y, h => by cases y <;> simp [beqVs] at h ⊢
  | a :: x, y, h => by
    cases y with
    | nil => simp [beqVs] at h
    | cons b y =>
      simp only [beqVs, Bool.and_eq_true] at h
      rw [beqV_eq a b h.1, beqVs_eq x y h.2]
end

theorem opS_of_cls {C : Cx} {ih : Task → Option Out} {env : Env} {H : Hp} {o : Oper} (h : cls o ≠ 2) : opS C ih env H o = match opV C env H o with | some (v, H') => some (.val v H') | none => none := by
  unfold opS
  split
  · rename_i x hx; exact absurd (by simp [cls, hx]) h
  · rename_i c hc
    split
    · rename_i g hg; exact absurd (by simp [cls, hc, hg]) h
    · rfl
  · rfl
theorem callB_still {C : Cx} {H H1 : Hp} {b : Builtin} {ts : List Nat} {xs : List AV} {v : AV} (hb : b = .len ∨ b = .max ∨ b = .min) (h : callB C H b ts xs = some (v, H1)) : H1 = H ∧ ∀ H2, callB C H2 b ts xs = some (v, H2) := by
  rcases hb with rfl | rfl | rfl
  · match ts, xs with
    | [], _ => simp only [callB] at h; cases h
    | _ :: _, [] => simp only [callB] at h; cases h
    | _ :: _, _ :: _ :: _ => simp only [callB] at h; cases h
    | t :: _, [x] =>
      simp only [callB] at h ⊢
      cases ht : C.ti t with
      | none => rw [ht] at h; cases h
      | some i =>
        rw [ht] at h
        simp only at h ⊢
        split at h <;> first | (cases h; done) | (cases h; exact ⟨rfl, fun H2 => by simp_all⟩)
  · match xs with
    | [] => simp only [callB] at h; cases h
    | [_] => simp only [callB] at h; cases h
    | _ :: _ :: _ :: _ => simp only [callB] at h; cases h
    | [x, y] =>
      cases x <;> cases y <;> simp only [callB] at h ⊢ <;> first | (cases h; done) | (cases h; exact ⟨rfl, fun H2 => rfl⟩)
  · match xs with
    | [] => simp only [callB] at h; cases h
    | [_] => simp only [callB] at h; cases h
    | _ :: _ :: _ :: _ => simp only [callB] at h; cases h
    | [x, y] =>
      cases x <;> cases y <;> simp only [callB] at h ⊢ <;> first | (cases h; done) | (cases h; exact ⟨rfl, fun H2 => rfl⟩)
theorem opV_still {C : Cx} {env : Env} {H H1 : Hp} {o : Oper} {v : AV} (hc : cls o = 0) (h : opV C env H o = some (v, H1)) : H1 = H ∧ ∀ H2, opV C env H2 o = some (v, H2) := by
  obtain ⟨dst, op, type, pos, after, guard⟩ := o
  cases op <;> simp only [cls] at hc
  all_goals (try (exact absurd hc (by decide)))
  case call c =>
    obtain ⟨callee, args, ts⟩ := c
    cases callee <;> simp only at hc <;> try (exact absurd hc (by decide))
    rename_i b
    cases b <;> simp only at hc <;> first | exact absurd hc (by decide) | exact callB_still (by simp) h
  case makeFunc fn first caps =>
    cases fn <;> simp only [opV] at h ⊢ <;> first | (cases h; done) | (cases h; exact ⟨rfl, fun H2 => rfl⟩)
  case slice t x lo hi mx =>
    cases mx with
    | some _ => simp only [opV] at h; cases h
    | none =>
      simp only [opV] at h ⊢
      obtain ⟨z, hz, he⟩ := map_some h
      cases he
      exact ⟨rfl, fun H2 => by rw [hz]; rfl⟩
  all_goals
    simp only [opV] at h ⊢
    first
      | (cases h; exact ⟨rfl, fun H2 => rfl⟩)
      | (obtain ⟨z, hz, he⟩ := map_some h; cases he; refine ⟨rfl, fun H2 => ?_⟩; rw [hz]; rfl)
      | ((repeat' (split at h)) <;> first | (cases h; done) | (cases h; refine ⟨rfl, fun H2 => ?_⟩; simp_all; done) | (obtain ⟨z, hz, he⟩ := map_some h; cases he; refine ⟨rfl, fun H2 => ?_⟩; simp_all; done))
theorem opV_reads {C : Cx} {env : Env} {H H1 : Hp} {o : Oper} {v : AV} (hc : cls o = 1) (h : opV C env H o = some (v, H1)) : H1 = H := by
  obtain ⟨dst, op, type, pos, after, guard⟩ := o
  cases op <;> simp only [cls] at hc <;> try (exact absurd hc (by decide))
  case call c =>
    obtain ⟨callee, args, ts⟩ := c
    cases callee <;> simp only at hc <;> try (exact absurd hc (by decide))
    rename_i b
    cases b <;> simp only at hc <;> exact absurd hc (by decide)
  case load t x =>
    simp only [opV] at h
    split at h
    · split at h
      · obtain ⟨z, hz, he⟩ := map_some h; cases he; rfl
      · cases h
    · cases h
  case convert s d x =>
    simp only [opV, convV] at h
    (repeat' (split at h)) <;> first | (cases h; done) | (cases h; rfl)
theorem opV_congr {C : Cx} {env env' : Env} {H : Hp} {o : Oper} (h : ∀ x ∈ o.op.operands, opnd env x = opnd env' x) : opV C env H o = opV C env' H o := by
  obtain ⟨dst, op, type, pos, after, guard⟩ := o
  have pairs : ∀ ps : Array (Nat × Operand), (∀ x ∈ ps.map (·.2), opnd env x = opnd env' x) →
      (ps.toList.map fun p => (p.1, opnd env p.2)) = (ps.toList.map fun p => (p.1, opnd env' p.2)) := fun ps hp =>
    List.map_congr_left fun p hm => by rw [hp p.2 (Array.mem_map.2 ⟨p, by simpa using hm, rfl⟩)]
  cases op <;> simp only [Op.operands] at h <;> simp only [opV]
  case build t ps => rw [pairs ps fun x hx => h x (by simpa using hx)]
  case buildSlice t n ps => rw [pairs ps fun x hx => h x (by simpa using hx)]
  case makeFunc fn first captured =>
    have e1 : first.toList.map (opnd env) = first.toList.map (opnd env') := List.map_congr_left fun x hx => h x (by simp at hx; simp [hx])
    have e2 : captured.toList.map (opnd env) = captured.toList.map (opnd env') := List.map_congr_left fun x hx => h x (by simp at hx; simp [hx])
    cases fn <;> simp only [e1, e2]
  case call c =>
    obtain ⟨callee, args, ts⟩ := c
    cases callee <;> simp only
    rename_i b
    have e1 : args.toList.map (opnd env) = args.toList.map (opnd env') := List.map_congr_left fun x hx => h x (by simp at hx; simp [Call.operands, hx])
    rw [e1]
  case slice t x lo hi mx =>
    have e0 : opnd env x = opnd env' x := h x (by simp)
    have e1 : lo.map (opnd env) = lo.map (opnd env') := by cases lo with | none => rfl | some y => simp [h y (by simp)]
    have e2 : hi.map (opnd env) = hi.map (opnd env') := by cases hi with | none => rfl | some y => simp [h y (by simp)]
    cases mx <;> simp only [e0, e1, e2]
  case pick c x y =>
    rw [h c (by simp)]
    split
    · rename_i b _
      cases b with
      | true => simp only [if_true]; rw [h x (by simp)]
      | false => simp only [Bool.false_eq_true, if_false]; rw [h y (by simp)]
    · rfl
  all_goals (first | rfl | (simp_all; done))
theorem opS_congr {C : Cx} {ih : Task → Option Out} {env env' : Env} {H : Hp} {o : Oper} (h : ∀ x ∈ o.op.operands, opnd env x = opnd env' x) : opS C ih env H o = opS C ih env' H o := by
  have hv := opV_congr (C := C) (H := H) h
  unfold opS
  split
  · rename_i x hx
    rw [h x (by simp [hx, Op.operands])]
  · rename_i c hc
    split
    · rename_i g hg
      rw [h g (by simp [hc, Op.operands, Call.operands, hg]), opnds_eq, opnds_eq, List.map_congr_left (fun x hx => h x (by simp at hx; simp [hc, Op.operands, Call.operands, hx]))]
    · rw [hv]
  · rw [hv]
theorem agree_opnd {ops : Array Oper} {o : Oper} {env env' : Env} (h : ∀ t ∈ o.looksAt ops, look env t = look env' t) : ∀ x ∈ o.op.operands, opnd env x = opnd env' x := by
  intro x hx
  cases x with
  | tmp t => exact h t (List.mem_append_left _ (List.mem_filterMap.2 ⟨.tmp t, by simpa using hx, rfl⟩))
  | _ => rfl
theorem agree_wanted {ops : Array Oper} {o : Oper} {env env' : Env} (h : ∀ t ∈ o.looksAt ops, look env t = look env' t) : wantedV o ops.toList env = wantedV o ops.toList env' := by
  unfold wantedV
  cases hg : o.guard with
  | none => rfl
  | some gw =>
    obtain ⟨g, want⟩ := gw
    simp only
    rw [nth_eq]
    cases hp : ops.toList[g]? with
    | none => rfl
    | some p =>
      simp only
      cases hd : p.dst with
      | none => rfl
      | some d =>
        simp only
        rw [Array.getElem?_toList] at hp
        rw [h d (List.mem_append_right _ (by simp [hg, hp, hd]))]

/-- No later operation gives this slot. -/
theorem opsD_look {C : Cx} {ih : Task → Option Out} {all : List Oper} {t : Nat} : ∀ (l : List Oper) (env env' : Env) (H : Hp) (hs : List Hp), opsD C ih all l env H = some (env', hs) → (∀ o ∈ l, o.dst ≠ some t) → look env' t = look env t
  | [], env, env', H, hs, h, _ => by
    have h' : some (env, ([] : List Hp)) = some (env', hs) := h
    cases h'; rfl
  | o :: l, env, env', H, hs, h, hn => by
    have h' : (match wantedV o all env with
      | none => none
      | some false => match opsD C ih all l (putV env o.dst (.tuple [])) H with
        | some (e, hs) => some (e, bif Nat.beq (cls o) 2 then H :: hs else hs)
        | none => none
      | some true => match opS C ih env H o with
        | some (.val v H') => match opsD C ih all l (putV env o.dst v) H' with
          | some (e, hs) => some (e, bif Nat.beq (cls o) 2 then H' :: hs else hs)
          | none => none
        | _ => none) = some (env', hs) := h
    have hput : ∀ v, look (putV env o.dst v) t = look env t := by
      intro v
      cases hd : o.dst with
      | none => rfl
      | some d =>
        simp only [putV]
        rw [look_put, if_neg]
        intro e
        subst e
        exact hn o (by simp) hd
    have hl : ∀ p ∈ l, p.dst ≠ some t := fun p hp => hn p (by simp [hp])
    split at h'
    · cases h'
    · split at h'
      · rename_i e hs' hr
        cases h'
        rw [opsD_look l _ _ _ _ hr hl, hput]
      · cases h'
    · split at h'
      · rename_i v H1 _
        split at h'
        · rename_i e hs' hr
          cases h'
          rw [opsD_look l _ _ _ _ hr hl, hput]
        · cases h'
      · cases h'
/-- What the run in the text's order tells of each operation. -/
def Told (C : Cx) (ih : Task → Option Out) (all : List Oper) (env0 env' : Env) (hs : List Hp) (l : List Oper) : Prop :=
  ∀ (i : Nat) (o : Oper), l[i]? = some o → ∃ b v Ei, wantedV o all Ei = some b ∧ (∀ t, (∀ (j : Nat) (p : Oper), l[j]? = some p → i ≤ j → p.dst ≠ some t) → look Ei t = look env' t) ∧ (∀ t, (∀ (j : Nat) (p : Oper), l[j]? = some p → j < i → p.dst ≠ some t) → look Ei t = look env0 t) ∧ (∀ d, o.dst = some d → look env' d = v) ∧
    (b = false → v = .tuple [] ∧ (cls o = 2 → ∀ H, hs[(l.take i).countP (fun p => Nat.beq (cls p) 2)]? = some H → hs[(l.take i).countP (fun p => Nat.beq (cls p) 2) + 1]? = some H)) ∧
    (b = true → ∃ Hb Ha, hs[(l.take i).countP (fun p => Nat.beq (cls p) 2)]? = some Hb ∧ opS C ih Ei Hb o = some (.val v Ha) ∧ (cls o = 2 → hs[(l.take i).countP (fun p => Nat.beq (cls p) 2) + 1]? = some Ha))
theorem opS_still {C : Cx} {ih : Task → Option Out} {env : Env} {H H1 : Hp} {o : Oper} {v : AV} (hc : cls o ≠ 2) (h : opS C ih env H o = some (.val v H1)) : H1 = H := by
  rw [opS_of_cls hc] at h
  cases hv : opV C env H o with
  | none => rw [hv] at h; cases h
  | some p =>
    obtain ⟨v', H'⟩ := p
    rw [hv] at h
    cases h
    have : cls o = 0 ∨ cls o = 1 := by
      have hle : cls o ≤ 2 := by
        unfold cls
        repeat' split
        all_goals omega
      omega
    rcases this with h0 | h1
    · exact (opV_still h0 hv).1
    · exact opV_reads h1 hv
theorem opsD_told {C : Cx} {ih : Task → Option Out} {ops : Array Oper} : ∀ (l : List Oper) (env env' : Env) (H : Hp) (hs : List Hp), opsD C ih ops.toList l env H = some (env', hs) →
    (∀ (i j : Nat) (o p : Oper), l[i]? = some o → l[j]? = some p → i < j → ∀ d, o.dst = some d → p.dst ≠ some d) →
    Told C ih ops.toList env env' (H :: hs) l ∧ hs.length = l.countP (fun p => Nat.beq (cls p) 2)
  | [], env, env', H, hs, h, _ => by
    have h' : some (env, ([] : List Hp)) = some (env', hs) := h
    cases h'
    exact ⟨fun i o ho => by simp at ho, rfl⟩
  | o :: l, env, env', H, hs, h, hd => by
    have h' : (match wantedV o ops.toList env with
      | none => none
      | some false => match opsD C ih ops.toList l (putV env o.dst (.tuple [])) H with
        | some (e, hs) => some (e, bif Nat.beq (cls o) 2 then H :: hs else hs)
        | none => none
      | some true => match opS C ih env H o with
        | some (.val v H') => match opsD C ih ops.toList l (putV env o.dst v) H' with
          | some (e, hs) => some (e, bif Nat.beq (cls o) 2 then H' :: hs else hs)
          | none => none
        | _ => none) = some (env', hs) := h
    have hd' : ∀ (i j : Nat) (p q : Oper), l[i]? = some p → l[j]? = some q → i < j → ∀ d, p.dst = some d → q.dst ≠ some d := fun i j p q hp hq hij => hd (i + 1) (j + 1) p q (by simpa using hp) (by simpa using hq) (by omega)
    have key : ∀ (v : AV) (H1 : Hp) (hs1 : List Hp), opsD C ih ops.toList l (putV env o.dst v) H1 = some (env', hs1) → (∀ d, o.dst = some d → look env' d = v) := by
      intro v H1 hs1 hr d hdd
      rw [opsD_look l _ _ _ _ hr]
      · rw [hdd]; simp only [putV]; rw [look_put, if_pos rfl]
      · intro p hp
        obtain ⟨j, hj⟩ := List.mem_iff_getElem?.1 hp
        exact hd 0 (j + 1) o p rfl (by simpa using hj) (by omega) d hdd
    have build : ∀ (b : Bool) (v : AV) (H1 : Hp) (hs1 : List Hp), wantedV o ops.toList env = some b → (∀ d, o.dst = some d → look env' d = v) → (b = false → v = .tuple [] ∧ H1 = H) → (b = true → opS C ih env H o = some (.val v H1)) → (cls o ≠ 2 → H1 = H) → hs = (bif Nat.beq (cls o) 2 then H1 :: hs1 else hs1) →
        Told C ih ops.toList (putV env o.dst v) env' (H1 :: hs1) l ∧ hs1.length = l.countP (fun p => Nat.beq (cls p) 2) → Told C ih ops.toList env env' (H :: hs) (o :: l) ∧ hs.length = (o :: l).countP (fun p => Nat.beq (cls p) 2) := by
      intro b v H1 hs1 hw hv hf ht hst hhs hrec
      obtain ⟨hrec, hlen⟩ := hrec
      have hc2 : Nat.beq (cls o) 2 = true ↔ cls o = 2 := ⟨fun h => Nat.eq_of_beq_eq_true h, fun h => by rw [h]; rfl⟩
      refine ⟨?_, ?_⟩
      · intro i p hp
        cases i with
        | zero =>
          simp at hp
          subst hp
          refine ⟨b, v, env, hw, ?_, fun _ _ => rfl, hv, ?_, ?_⟩
          · intro t ht
            exact (opsD_look (o :: l) env env' H hs h fun q hq => by
              obtain ⟨j, hj⟩ := List.mem_iff_getElem?.1 hq
              exact ht j q hj (Nat.zero_le _)).symm
          · intro hb
            obtain ⟨h1, h2⟩ := hf hb
            refine ⟨h1, ?_⟩
            intro hc H2 hH2
            rw [hc2.2 hc] at hhs
            subst h2
            simp at hH2
            subst hH2
            rw [hhs]; simp
          · intro hb
            refine ⟨H, H1, by simp, ht hb, ?_⟩
            intro hc
            rw [hc2.2 hc] at hhs
            rw [hhs]; simp
        | succ i =>
          have hp' : l[i]? = some p := by simpa using hp
          obtain ⟨b', v', Ei, w1, wa, wb, w2, w3, w4⟩ := hrec i p hp'
          refine ⟨b', v', Ei, w1, ?_, ?_, w2, ?_⟩
          · intro t ht
            exact wa t fun j q hq hij => ht (j + 1) q (by simpa using hq) (by omega)
          · intro t ht
            rw [wb t fun j q hq hij => ht (j + 1) q (by simpa using hq) (by omega)]
            have h0 := ht 0 o rfl (by omega)
            cases hdd : o.dst with
            | none => rfl
            | some d =>
              simp only [putV]
              rw [look_put, if_neg]
              intro e
              subst e
              exact h0 hdd
          · rw [List.take_succ_cons, List.countP_cons]
            by_cases hc : cls o = 2
            · rw [hc2.2 hc] at hhs ⊢
              simp only [cond_true, if_true] at hhs ⊢
              rw [hhs]
              simp only [List.getElem?_cons_succ]
              exact ⟨w3, w4⟩
            · have hcf : Nat.beq (cls o) 2 = false := by
                cases hq : Nat.beq (cls o) 2 with
                | false => rfl
                | true => exact absurd (hc2.1 hq) hc
              rw [hcf] at hhs ⊢
              simp only [cond_false, Bool.false_eq_true, if_false, Nat.add_zero] at hhs ⊢
              rw [hhs, ← hst hc]
              exact ⟨w3, w4⟩
      · rw [hhs, List.countP_cons]
        cases hq : Nat.beq (cls o) 2 with
        | true => simp [hlen]
        | false => simp [hlen]
    split at h'
    · cases h'
    · rename_i hw
      split at h'
      · rename_i e hs' hr
        cases h'
        exact build false (.tuple []) H hs' hw (key _ _ _ hr) (fun _ => ⟨rfl, rfl⟩) (fun hb => by cases hb) (fun _ => rfl) rfl (opsD_told l _ _ _ _ hr hd')
      · cases h'
    · rename_i hw
      split at h'
      · rename_i v H1 hs1
        split at h'
        · rename_i e hs' hr
          cases h'
          exact build true v H1 hs' hw (key _ _ _ hr) (fun hb => by cases hb) (fun _ => hs1) (fun hc => opS_still hc hs1) rfl (opsD_told l _ _ _ _ hr hd')
        · cases h'
      · cases h'

def maskAt (pl : List (Nat × Nat × Nat)) (i : Nat) : Nat := match pl[i]? with | some (k, _, _) => k | none => 0
def effAt (ops : Array Oper) (k : Nat) : Bool := match ops.toList[k]? with | some p => Nat.beq (cls p) 2 | none => false
def maskOf (pl : List (Nat × Nat × Nat)) (es : List Edge) : Nat := es.foldl (fun acc e => bif Region.binds .any e then acc ||| (2 ^ e.on ||| maskAt pl e.on) else acc) 0
/-- Is this the plan of the region: what must be run ahead of each operation; slots are given once; acts stand in one order. -/
def planOk (ops : Array Oper) (pl : List (Nat × Nat × Nat)) : Bool :=
  (List.range ops.size).all fun i => match ops.toList[i]?, pl[i]? with
    | some o, some (mask, lo, hi) =>
      (o.after.toList.all fun e => !Region.binds .any e || Nat.blt e.on i) && Nat.beq mask (maskOf pl o.after.toList) &&
      ((List.range ops.size).all fun k => match ops.toList[k]? with
        | some p => (Nat.beq k i || (match p.dst with | some d => o.dst != some d | none => true)) &&
            (match p.dst with | some d => !(o.looksAt ops).contains d || (Nat.blt k i && mask.testBit k) || (Nat.blt i k && (maskAt pl k).testBit i && !Nat.beq (cls o) 1) | none => true) &&
            (!(Nat.beq (cls o) 2 && Nat.beq (cls p) 2 && Nat.blt k i) || mask.testBit k)
        | none => false) &&
      (!Nat.beq (cls o) 1 || (Nat.ble lo ((List.range ops.size).countP fun k => effAt ops k && mask.testBit k) && Nat.ble ((List.range ops.size).countP (effAt ops)) (hi + (List.range ops.size).countP fun k => effAt ops k && (maskAt pl k).testBit i)))
    | _, _ => false
structure PlanOk (ops : Array Oper) (pl : List (Nat × Nat × Nat)) : Prop where
  back : ∀ i o, ops[i]? = some o → ∀ e ∈ o.after, Region.binds .any e = true → e.on < i
  mask : ∀ i o, ops[i]? = some o → ∀ k, (maskAt pl i).testBit k = true → ∃ e ∈ o.after, Region.binds .any e = true ∧ (k = e.on ∨ (maskAt pl e.on).testBit k = true)
  once : ∀ (i k : Nat) (o p : Oper), ops[i]? = some o → ops[k]? = some p → k ≠ i → ∀ d, p.dst = some d → o.dst ≠ some d
  uses : ∀ i k o p, ops[i]? = some o → ops[k]? = some p → ∀ d ∈ o.looksAt ops, p.dst = some d → (k < i ∧ (maskAt pl i).testBit k = true) ∨ (i < k ∧ (maskAt pl k).testBit i = true ∧ cls o ≠ 1)
  acts : ∀ i k o p, ops[i]? = some o → ops[k]? = some p → cls o = 2 → cls p = 2 → k < i → (maskAt pl i).testBit k = true
  reads : ∀ i o mask lo hi, ops[i]? = some o → pl[i]? = some (mask, lo, hi) → cls o = 1 → lo ≤ ((List.range ops.size).countP fun k => effAt ops k && (maskAt pl i).testBit k) ∧ (List.range ops.size).countP (effAt ops) ≤ (hi + (List.range ops.size).countP fun k => effAt ops k && (maskAt pl k).testBit i)
  len : ∀ (i : Nat) (o : Oper), ops[i]? = some o → ∃ q : Nat × Nat × Nat, pl[i]? = some q
theorem maskOf_bit (pl : List (Nat × Nat × Nat)) (k : Nat) : ∀ (es : List Edge) (acc : Nat), (es.foldl (fun acc e => bif Region.binds .any e then acc ||| (2 ^ e.on ||| maskAt pl e.on) else acc) acc).testBit k = true → acc.testBit k = true ∨ ∃ e ∈ es, Region.binds .any e = true ∧ (k = e.on ∨ (maskAt pl e.on).testBit k = true)
  | [], acc, h => .inl h
  | e :: es, acc, h => by
    rw [List.foldl_cons] at h
    rcases maskOf_bit pl k es _ h with h1 | ⟨e', he, hb⟩
    · cases hb : Region.binds .any e with
      | false => rw [hb] at h1; exact .inl h1
      | true =>
        rw [hb] at h1
        simp only [cond_true, Nat.testBit_or, Bool.or_eq_true] at h1
        rcases h1 with h1 | h1 | h1
        · exact .inl h1
        · refine .inr ⟨e, by simp, hb, .inl ?_⟩
          rw [Nat.testBit_two_pow] at h1
          simpa using (of_decide_eq_true h1).symm
        · exact .inr ⟨e, by simp, hb, .inr h1⟩
    · exact .inr ⟨e', by simp [he], hb⟩
theorem planOk_spec {ops : Array Oper} {pl : List (Nat × Nat × Nat)} (h : planOk ops pl = true) : PlanOk ops pl := by
  unfold planOk at h
  have hall := h
  rw [List.all_eq_true] at hall
  have lt : ∀ {i : Nat} {o : Oper}, ops[i]? = some o → i < ops.size := fun h => (Array.getElem?_eq_some_iff.1 h).1
  have key : ∀ i o, ops[i]? = some o → ∃ mask lo hi, pl[i]? = some (mask, lo, hi) ∧ maskAt pl i = mask ∧
      (∀ e ∈ o.after, Region.binds .any e = true → e.on < i) ∧ mask = maskOf pl o.after.toList ∧
      (∀ k p, ops[k]? = some p → (k = i ∨ ∀ d, p.dst = some d → o.dst ≠ some d) ∧ (∀ d, p.dst = some d → d ∈ o.looksAt ops → (k < i ∧ mask.testBit k = true) ∨ (i < k ∧ (maskAt pl k).testBit i = true ∧ cls o ≠ 1)) ∧ (cls o = 2 → cls p = 2 → k < i → mask.testBit k = true)) ∧
      (cls o = 1 → lo ≤ ((List.range ops.size).countP fun k => effAt ops k && mask.testBit k) ∧ (List.range ops.size).countP (effAt ops) ≤ (hi + (List.range ops.size).countP fun k => effAt ops k && (maskAt pl k).testBit i)) := by
    intro i o ho
    have h1 := hall i (List.mem_range.2 (lt ho))
    rw [Array.getElem?_toList, ho] at h1
    split at h1
    · rename_i o' mask lo hi e1 e2
      cases e1
      simp only [Bool.and_eq_true, List.all_eq_true] at h1
      obtain ⟨⟨⟨q1, q2⟩, q3⟩, q4⟩ := h1
      refine ⟨mask, lo, hi, e2, by simp [maskAt, e2], ?_, Nat.eq_of_beq_eq_true q2, ?_, ?_⟩
      · intro e he hb
        have := q1 e (by simpa using he)
        rw [hb] at this
        simpa using this
      · intro k p hp
        have := q3 k (List.mem_range.2 (lt hp))
        rw [Array.getElem?_toList, hp] at this
        simp only [Bool.and_eq_true] at this
        obtain ⟨⟨r1, r2⟩, r3⟩ := this
        refine ⟨?_, ?_, ?_⟩
        · simp only [Bool.or_eq_true] at r1
          rcases r1 with r1 | r1
          · exact .inl (Nat.eq_of_beq_eq_true r1)
          · refine .inr fun d hd => ?_
            rw [hd] at r1
            simpa using r1
        · intro d hd hu
          rw [hd] at r2
          simp only [Bool.or_eq_true, Bool.not_eq_true', Bool.and_eq_true] at r2
          rcases r2 with (r2 | r2) | r2
          · exact absurd (by simpa using hu) (by simpa using r2)
          · exact .inl ⟨by simpa using r2.1, r2.2⟩
          · refine .inr ⟨by simpa using r2.1.1, r2.1.2, fun e => ?_⟩
            rw [e] at r2
            exact absurd r2.2 (by decide)
        · intro c1 c2 hk
          simp only [c1, c2, Bool.or_eq_true, Bool.not_eq_true'] at r3
          rcases r3 with r3 | r3
          · have : Nat.blt k i = true := by simpa using hk
            rw [this] at r3
            exact absurd r3 (by decide)
          · exact r3
      · intro c1
        simp only [c1, Bool.or_eq_true, Bool.not_eq_true', Bool.and_eq_true] at q4
        rcases q4 with q4 | q4
        · exact absurd q4 (by decide)
        · exact ⟨Nat.le_of_ble_eq_true q4.1, Nat.le_of_ble_eq_true q4.2⟩
    · cases h1
  refine ⟨?_, ?_, ?_, ?_, ?_, ?_, ?_⟩
  · intro i o ho
    obtain ⟨mask, lo, hi, _, _, h1, _⟩ := key i o ho
    exact h1
  · intro i o ho k hk
    obtain ⟨mask, lo, hi, _, hm, _, h2, _⟩ := key i o ho
    rw [hm, h2] at hk
    rcases maskOf_bit pl k _ 0 hk with h3 | ⟨e, he, hb, hq⟩
    · simp at h3
    · exact ⟨e, by simpa using he, hb, hq⟩
  · intro i k o p ho hp hne d hd
    obtain ⟨mask, lo, hi, _, hm, _, _, h3, _⟩ := key i o ho
    exact (h3 k p hp).1.resolve_left hne d hd
  · intro i k o p ho hp d hu hd
    obtain ⟨mask, lo, hi, _, hm, _, _, h3, _⟩ := key i o ho
    rw [hm]
    exact (h3 k p hp).2.1 d hd hu
  · intro i k o p ho hp c1 c2 hk
    obtain ⟨mask, lo, hi, _, hm, _, _, h3, _⟩ := key i o ho
    rw [hm]
    exact (h3 k p hp).2.2 c1 c2 hk
  · intro i o mask lo hi ho hpl c1
    obtain ⟨mask', lo', hi', hpl', hm, _, _, _, h4⟩ := key i o ho
    rw [hpl] at hpl'
    cases hpl'
    rw [hm]
    exact h4 c1
  · intro i o ho
    obtain ⟨mask, lo, hi, hpl, _⟩ := key i o ho
    exact ⟨_, hpl⟩
/-- All that an operation waits for has been run. -/
theorem closed_mask {ops : Array Oper} {pl : List (Nat × Nat × Nat)} (hp : PlanOk ops pl) {S : Nat → Prop} (hc : ∀ i o, ops[i]? = some o → S i → ∀ e ∈ o.after, Region.binds .any e = true → S e.on) (hin : ∀ i, S i → i < ops.size) :
    ∀ (i : Nat) (o : Oper), ops[i]? = some o → (∀ e ∈ o.after, Region.binds .any e = true → S e.on) → ∀ k, (maskAt pl i).testBit k = true → S k := by
  intro i
  induction i using Nat.strongRecOn with
  | _ i ih =>
    intro o ho hd k hk
    obtain ⟨e, he, hb, hq⟩ := hp.mask i o ho k hk
    rcases hq with rfl | hq
    · exact hd e he hb
    · have hS := hd e he hb
      have hlt := hp.back i o ho e he hb
      have hlt' := hin _ hS
      have ho' : ops[e.on]? = some ops[e.on] := Array.getElem?_eq_getElem hlt'
      exact ih e.on hlt _ ho' (hc _ _ ho' hS) k hq

theorem countP_upd (i : Nat) (f g : Nat → Bool) (hf : f i = false) (hg : g i = true) (hne : ∀ k, k ≠ i → f k = g k) : ∀ n, i < n → (List.range n).countP g = (List.range n).countP f + 1
  | 0, h => by omega
  | n + 1, h => by
    rw [List.range_succ, List.countP_append, List.countP_append]
    by_cases e : i = n
    · subst e
      have : (List.range i).countP g = (List.range i).countP f := List.countP_congr fun k hk => by
        have : k ≠ i := by have := List.mem_range.1 hk; omega
        rw [hne k this]
      rw [this]
      simp [hf, hg]
    · have ih := countP_upd i f g hf hg hne n (by omega)
      have hn := hne n (fun h => e h.symm)
      rw [ih]
      simp only [List.countP_cons, List.countP_nil, hn]
      omega
theorem countP_below (f : Nat → Bool) (i : Nat) : ∀ n, i ≤ n → (List.range n).countP (fun k => f k && decide (k < i)) = (List.range i).countP f
  | 0, h => by
    have : i = 0 := by omega
    subst this; rfl
  | n + 1, h => by
    by_cases e : i = n + 1
    · subst e
      exact List.countP_congr fun k hk => by have := List.mem_range.1 hk; simp [this]
    · rw [List.range_succ, List.countP_append, countP_below f i n (by omega)]
      have : ¬ n < i := by omega
      simp [this]
theorem take_count (ops : Array Oper) : ∀ i, i ≤ ops.size → (ops.toList.take i).countP (fun p => Nat.beq (cls p) 2) = (List.range i).countP (effAt ops)
  | 0, _ => rfl
  | i + 1, h => by
    rw [List.take_add_one, List.countP_append, take_count ops i (by omega), List.range_succ, List.countP_append]
    congr 1
    have hi : i < ops.size := by omega
    have : ops.toList[i]? = some ops[i] := by rw [Array.getElem?_toList]; exact Array.getElem?_eq_getElem hi
    simp [effAt, hi]
theorem countP_apart {p q r : Nat → Bool} (hpr : ∀ k, p k = true → r k = true) (hqr : ∀ k, q k = true → r k = true) (hpq : ∀ k, p k = true → q k = true → False) : ∀ l : List Nat, l.countP p + l.countP q ≤ l.countP r
  | [] => by simp
  | k :: l => by
    have ih := countP_apart hpr hqr hpq l
    simp only [List.countP_cons]
    cases hp : p k <;> cases hq : q k <;> cases hr : r k <;> simp only [if_true, Bool.false_eq_true, if_false] <;> first | omega | exact absurd (hpr k hp) (by rw [hr]; decide) | exact absurd (hqr k hq) (by rw [hr]; decide) | exact (hpq k hp hq).elim
theorem alikeL_at {C : Cx} {all : List Oper} {env : Env} {hs : List Hp} : ∀ (l : List Oper) (pl : List (Nat × Nat × Nat)), alikeL C all env hs l pl = true → ∀ (i : Nat) (o : Oper) (mk lo hi : Nat), l[i]? = some o → pl[i]? = some (mk, lo, hi) → cls o = 1 → wantedV o all env = some true → ∀ j, lo ≤ j → j ≤ hi → alikeAt C env hs o j = true
  | [], pl, h, i, o, mk, lo, hi, ho, _, _, _, j, _, _ => by simp at ho
  | p :: l, [], h, i, o, mk, lo, hi, ho, hp, _, _, j, _, _ => by simp at hp
  | p :: l, (mk0, lo0, hi0) :: pl, h, i, o, mk, lo, hi, ho, hp, hc, hw, j, h1, h2 => by
    simp only [alikeL, Bool.and_eq_true] at h
    cases i with
    | zero =>
      simp at ho hp
      subst ho
      obtain ⟨rfl, rfl, rfl⟩ := hp
      have h3 := h.1
      rw [hc, hw] at h3
      have h4 : (List.range' lo0 (hi0 + 1 - lo0)).all (alikeAt C env hs p) = true := h3
      rw [List.all_eq_true] at h4
      exact h4 j (List.mem_range'_1.2 ⟨h1, by omega⟩)
    | succ i => exact alikeL_at l pl h.2 i o mk lo hi (by simpa using ho) (by simpa using hp) hc hw j h1 h2
theorem lastH_get : ∀ (hs : List Hp) (H : Hp), (H :: hs)[hs.length]? = some (lastH H hs)
  | [], H => rfl
  | h :: l, H => by
    have := lastH_get l h
    simpa [lastH] using this

def cnt (ops : Array Oper) (listed : Array Bool) : Nat := (List.range ops.size).countP fun k => effAt ops k && listed.getD k false
/-- Some of the region's operations have been run. -/
structure Mid (ops : Array Oper) (env0 env' : Env) (hs : List Hp) (n base : Nat) (m0 : Mp) (w0 : World) (listed : Array Bool) (a : Act) (w : World) (E : Env) (m : Mp) (H : Hp) : Prop where
  size : listed.size = ops.size
  closed : ∀ (i : Nat) (o : Oper), ops[i]? = some o → listed.getD i false = true → ∀ e ∈ o.after, Region.binds .any e = true → listed.getD e.on false = true
  fr : FR m E a.tmps
  tn : n ≤ a.tmps.size
  df : a.defers = []
  other : ∀ t, (∀ (k : Nat) (p : Oper), ops[k]? = some p → listed.getD k false = true → p.dst ≠ some t) → look E t = look env0 t
  given : ∀ (k : Nat) (p : Oper) (d : Nat), ops[k]? = some p → listed.getD k false = true → p.dst = some d → look E d = look env' d
  at_ : hs[cnt ops listed]? = some H
  rw_ : RW m H w base
  st : St m0 w0 base m w
theorem st_trans2 {m m' m'' : Mp} {w w' w'' : World} {base : Nat} (hb : base ≤ w.heap.size) (h : St m w base m' w') (k : St m' w' base m'' w'') : St m w base m'' w'' := h.trans hb k
theorem getD_set_eq {listed : Array Bool} {i : Nat} (h : i < listed.size) (d : Bool) : (listed.setIfInBounds i true).getD i d = true := by simp [h]
theorem Mid.next {ops : Array Oper} {pl : List (Nat × Nat × Nat)} (hp : PlanOk ops pl) {env0 env' : Env} {hs : List Hp} {n base : Nat} {m0 m m' : Mp} {w0 w w' : World} {listed : Array Bool} {a : Act} {E : Env} {H H' : Hp} (hb : base ≤ w0.heap.size) (md : Mid ops env0 env' hs n base m0 w0 listed a w E m H)
    {i : Nat} {o : Oper} {v : AV} {c : Value} (ho : ops[i]? = some o) (hun : listed.getD i false = false) (hdep : ∀ e ∈ o.after, Region.binds .any e = true → listed.getD e.on false = true) (hds : dstOk n o = true)
    (hv : ∀ d, o.dst = some d → look env' d = v) (rw1 : RW m' H' w' base) (st1 : St m w base m' w') (hc : VR m' v c) (hat : hs[cnt ops (listed.setIfInBounds i true)]? = some H') : Mid ops env0 env' hs n base m0 w0 (listed.setIfInBounds i true) (a.put o.dst c) w' (putV E o.dst v) m' H' := by
  have hi : i < ops.size := (Array.getElem?_eq_some_iff.1 ho).1
  have hi' : i < listed.size := by rw [md.size]; exact hi
  obtain ⟨f1, f2, f3⟩ := act_put_frame (md.fr.mono st1.sub) md.tn md.df o hds v c hc
  have hlook : ∀ t, o.dst ≠ some t → look (putV E o.dst v) t = look E t := by
    intro t ht
    cases hd : o.dst with
    | none => rfl
    | some d =>
      simp only [putV]
      rw [look_put, if_neg]
      intro e
      subst e
      exact ht hd
  refine ⟨by simp [md.size], ?_, f1, f2, f3, ?_, ?_, hat, rw1, st_trans2 hb md.st st1⟩
  · intro k p hk hl e he hbd
    by_cases hki : k = i
    · subst hki
      rw [ho] at hk
      cases hk
      exact getD_set_true (hdep e he hbd)
    · rw [getD_set_ne false (Ne.symm hki)] at hl
      exact getD_set_true (md.closed k p hk hl e he hbd)
  · intro t ht
    rw [hlook t (ht i o ho (getD_set_eq hi' false))]
    refine md.other t fun k p hk hl => ht k p hk ?_
    exact getD_set_true hl
  · intro k p d hk hl hd
    by_cases hki : k = i
    · subst hki
      rw [ho] at hk
      cases hk
      rw [hd]
      simp only [putV]
      rw [look_put, if_pos rfl]
      exact (hv d hd).symm
    · rw [getD_set_ne false (Ne.symm hki)] at hl
      rw [hlook d (hp.once i k o p ho hk hki d hd)]
      exact md.given k p d hk hl hd
theorem Mid.step {P : Program} {C : Cx} (hti : ∀ t i, C.ti t = some i → mkTi P t = some i) {ih : Task → Option Out} (hih : IhOk P ih) {ops : Array Oper} {pl : List (Nat × Nat × Nat)} (hp : PlanOk ops pl) {env0 env' : Env} {hs : List Hp} {n base : Nat} {m0 m : Mp} {w0 w : World} {listed : Array Bool} {a : Act} {E : Env} {H : Hp}
    (hb : base ≤ w0.heap.size) (hds : ops.toList.all (dstOk n) = true) (told : Told C ih ops.toList env0 env' hs ops.toList) (alike : alikeL C ops.toList env' hs ops.toList pl = true) (md : Mid ops env0 env' hs n base m0 w0 listed a w E m H) {i : Nat} (hr : i ∈ Region.ready .any ops listed) {Q : Exit → Act → World → Prop} :
    wpOp P ops Q i (fun a' w' => ∃ E' m' H', Mid ops env0 env' hs n base m0 w0 (listed.setIfInBounds i true) a' w' E' m' H') a w := by
  obtain ⟨hun, o, ho, hdep⟩ := mem_ready.1 hr
  have hi : i < ops.size := (Array.getElem?_eq_some_iff.1 ho).1
  have hi' : i < listed.size := by rw [md.size]; exact hi
  have hun' : listed.getD i false = false := by simpa [hi'] using hun
  have hoL : ops.toList[i]? = some o := by rw [Array.getElem?_toList]; exact ho
  have hdo : dstOk n o = true := List.all_eq_true.1 hds o (List.mem_of_getElem? hoL)
  have hin : ∀ k, listed.getD k false = true → k < ops.size := by
    intro k hk
    rcases Nat.lt_or_ge k ops.size with h | h
    · exact h
    · have h1 : listed[k]? = none := Array.getElem?_eq_none (by rw [md.size]; exact h)
      have : listed.getD k false = false := by simp [h1]
      rw [this] at hk; cases hk
  have hmask := closed_mask hp (S := fun k => listed.getD k false = true) md.closed hin
  have hbit := hmask i o ho hdep
  obtain ⟨b, v, Ei, t1, ta, tb, t2, t3, t4⟩ := told i o hoL
  have agree : ∀ t ∈ o.looksAt ops, look Ei t = look E t := by
    intro t ht
    by_cases hex : ∃ (k : Nat) (p : Oper), ops[k]? = some p ∧ p.dst = some t
    · obtain ⟨k, p, hk, hd⟩ := hex
      rcases hp.uses i k o p ho hk t ht hd with ⟨hki, hbk⟩ | ⟨hik, hbk, _⟩
      · rw [ta t, md.given k p t hk (hbit k hbk) hd]
        intro j q hq hij hqd
        rw [Array.getElem?_toList] at hq
        exact hp.once k j p q hk hq (by omega) t hqd hd
      · have hkl : listed.getD k false ≠ true := by
          intro hl
          have := hmask k p hk (md.closed k p hk hl) i hbk
          rw [hun'] at this; cases this
        rw [tb t, md.other t]
        · intro j q hq hl hqd
          by_cases hjk : j = k
          · subst hjk; exact hkl hl
          · exact hp.once k j p q hk hq hjk t hqd hd
        · intro j q hq hji hqd
          rw [Array.getElem?_toList] at hq
          exact hp.once k j p q hk hq (by omega) t hqd hd
    · rw [tb t, md.other t]
      · intro j q hq _ hqd; exact hex ⟨j, q, hq, hqd⟩
      · intro j q hq _ hqd
        rw [Array.getElem?_toList] at hq
        exact hex ⟨j, q, hq, hqd⟩
  have agree1 : cls o = 1 → ∀ t ∈ o.looksAt ops, look env' t = look E t := by
    intro hc t ht
    by_cases hex : ∃ (k : Nat) (p : Oper), ops[k]? = some p ∧ p.dst = some t
    · obtain ⟨k, p, hk, hd⟩ := hex
      rcases hp.uses i k o p ho hk t ht hd with ⟨hki, hbk⟩ | ⟨_, _, hne⟩
      · exact (md.given k p t hk (hbit k hbk) hd).symm
      · exact absurd hc hne
    · rw [← agree t ht]
      refine (ta t fun j q hq _ hqd => ?_).symm
      rw [Array.getElem?_toList] at hq
      exact hex ⟨j, q, hq, hqd⟩
  have hwE : wantedV o ops.toList E = some b := by rw [← agree_wanted agree]; exact t1
  have hw := wanted_ok hwE md.fr
  have heff : effAt ops i = Nat.beq (cls o) 2 := by simp [effAt, hi, ho]
                                                    have := (Array.getElem?_eq_some_iff.1 ho).2
                                                    rw [this]
  have hset : ∀ k, k ≠ i → (listed.setIfInBounds i true).getD k false = listed.getD k false := fun k hk => getD_set_ne false (Ne.symm hk)
  have hsame : cls o ≠ 2 → cnt ops (listed.setIfInBounds i true) = cnt ops listed := by
    intro hc
    refine List.countP_congr fun k _ => ?_
    by_cases hki : k = i
    · subst hki
      have : Nat.beq (cls o) 2 = false := by
        cases hq : Nat.beq (cls o) 2 with
        | false => rfl
        | true => exact absurd (Nat.eq_of_beq_eq_true hq) hc
      rw [heff, this]; simp
    · rw [hset k hki]
  have hone : cls o = 2 → cnt ops (listed.setIfInBounds i true) = cnt ops listed + 1 := by
    intro hc
    refine countP_upd i _ _ ?_ ?_ ?_ ops.size hi
    · rw [hun']; simp
    · rw [heff, hc, getD_set_eq hi']; rfl
    · intro k hk
      rw [hset k hk]
  have hcount : cls o = 2 → cnt ops listed = (ops.toList.take i).countP (fun p => Nat.beq (cls p) 2) := by
    intro hc
    rw [take_count ops i (Nat.le_of_lt hi), ← countP_below (effAt ops) i ops.size (Nat.le_of_lt hi)]
    refine List.countP_congr fun k hk => ?_
    have hk := List.mem_range.1 hk
    have hkp : ops[k]? = some ops[k] := Array.getElem?_eq_getElem hk
    cases he : effAt ops k with
    | false => simp
    | true =>
      have hck : cls ops[k] = 2 := by
        have : effAt ops k = Nat.beq (cls ops[k]) 2 := by simp [effAt, hk]
        rw [this] at he
        exact Nat.eq_of_beq_eq_true he
      simp only [Bool.true_and, decide_eq_true_eq]
      constructor
      · intro hl
        rcases Nat.lt_trichotomy k i with h | h | h
        · exact h
        · subst h; rw [hun'] at hl; cases hl
        · have h1 := hp.acts k i _ _ hkp ho hck hc h
          have h2 := hmask k _ hkp (md.closed k _ hkp hl) i h1
          rw [hun'] at h2; cases h2
      · intro hlt
        exact hbit k (hp.acts i k _ _ ho hkp hc hck hlt)
  unfold wpOp
  simp only [ho]
  rw [hw]
  cases b with
  | false =>
    simp only [Bool.false_eq_true, if_false]
    obtain ⟨rfl, h3⟩ := t3 rfl
    refine ⟨_, m, H, md.next hp hb ho hun' hdep hdo t2 md.rw_ (St.refl _ _ _) (VR_undef _) ?_⟩
    by_cases hc : cls o = 2
    · rw [hone hc, hcount hc]
      exact h3 hc H (by rw [← hcount hc]; exact md.at_)
    · rw [hsame hc]; exact md.at_
  | true =>
    simp only [if_true]
    refine .inl ?_
    obtain ⟨Hb, Ha, q1, q2, q3⟩ := t4 rfl
    by_cases hc2 : cls o = 2
    · have hH : Hb = H := by
        have := md.at_
        rw [hcount hc2, q1] at this
        exact Option.some.inj this
      subst hH
      rw [opS_congr (agree_opnd agree)] at q2
      refine opS_ok hti hih q2 md.fr md.rw_ _ Q fun m' w' c r1 r2 r3 => ?_
      exact ⟨_, m', Ha, md.next hp hb ho hun' hdep hdo t2 r1 r2 r3 (by rw [hone hc2, hcount hc2]; exact q3 hc2)⟩
    · have quiet : ∀ v', opV C E H o = some (v', H) → (∀ d, o.dst = some d → look env' d = v') → o.wp P a w (fun a' w' => ∃ E' m' H', Mid ops env0 env' hs n base m0 w0 (listed.setIfInBounds i true) a' w' E' m' H') Q := by
        intro v' hv' hd'
        refine stepOk_opV hti hv' md.fr md.rw_ _ Q fun m' w' c r1 r2 r3 => ?_
        exact ⟨_, m', H, md.next hp hb ho hun' hdep hdo hd' r1 r2 r3 (by rw [hsame hc2]; exact md.at_)⟩
      have hcl : cls o = 0 ∨ cls o = 1 := by
        have hle : cls o ≤ 2 := by
          unfold cls
          repeat' split
          all_goals omega
        omega
      rcases hcl with hc0 | hc1
      · rw [opS_of_cls hc2] at q2
        rw [opV_congr (agree_opnd agree)] at q2
        cases hv : opV C E Hb o with
        | none => rw [hv] at q2; cases q2
        | some pq =>
          obtain ⟨v', H'⟩ := pq
          rw [hv] at q2
          cases q2
          exact quiet v ((opV_still hc0 hv).2 H) t2
      · obtain ⟨⟨mk, lo, hi⟩, hpl⟩ := hp.len i o ho
        obtain ⟨hlo, hhi⟩ := hp.reads i o mk lo hi ho hpl hc1
        have g1 : lo ≤ cnt ops listed := by
          refine Nat.le_trans hlo (List.countP_mono_left fun k hk => ?_)
          simp only [Bool.and_eq_true]
          rintro ⟨e1, e2⟩
          exact ⟨e1, hbit k e2⟩
        have g2 : cnt ops listed ≤ hi := by
          have := countP_apart (p := fun k => effAt ops k && listed.getD k false) (q := fun k => effAt ops k && (maskAt pl k).testBit i) (r := effAt ops) (fun k h => by simp at h; exact h.1) (fun k h => by simp at h; exact h.1) (fun k h1 h2 => by
            simp only [Bool.and_eq_true] at h1 h2
            have hk := hin k h1.2
            have hkp : ops[k]? = some ops[k] := Array.getElem?_eq_getElem hk
            have h3 := hmask k _ hkp (md.closed k _ hkp h1.2) i h2.2
            rw [hun'] at h3; cases h3) (List.range ops.size)
          unfold cnt
          omega
        have ha := alikeL_at _ _ alike i o mk lo hi hoL hpl hc1 (by rw [agree_wanted (agree1 hc1)]; exact hwE) _ g1 g2
        unfold alikeAt at ha
        rw [nth_eq, md.at_] at ha
        simp only at ha
        cases hv : opV C env' H o with
        | none => rw [hv] at ha; cases ha
        | some pq =>
          obtain ⟨v', H'⟩ := pq
          rw [hv] at ha
          simp only at ha
          have := opV_reads hc1 hv
          subst this
          rw [opV_congr (agree_opnd (agree1 hc1))] at hv
          refine quiet v' hv fun d hd => ?_
          rw [hd] at ha
          exact (beqV_eq _ _ ha).symm
theorem Mid.run {P : Program} {C : Cx} (hti : ∀ t i, C.ti t = some i → mkTi P t = some i) {ih : Task → Option Out} (hih : IhOk P ih) {ops : Array Oper} {pl : List (Nat × Nat × Nat)} (hp : PlanOk ops pl) {env0 env' : Env} {hs : List Hp} {n base : Nat} {m0 : Mp} {w0 : World} {Hl : Hp}
    (hb : base ≤ w0.heap.size) (hds : ops.toList.all (dstOk n) = true) (told : Told C ih ops.toList env0 env' hs ops.toList) (alike : alikeL C ops.toList env' hs ops.toList pl = true) (hsame : ∀ t, (∀ (k : Nat) (p : Oper), ops[k]? = some p → p.dst ≠ some t) → look env' t = look env0 t) (hlast : hs[(List.range ops.size).countP (effAt ops)]? = some Hl) : ∀ (fuel : Nat) (listed : Array Bool) (a : Act) (w : World) (E : Env) (m : Mp) (H : Hp),
    Mid ops env0 env' hs n base m0 w0 listed a w E m H → (List.range ops.size).countP (fun k => !listed.getD k false) = fuel → wpAny P .any ops (Post m0 w0 base n .normal env' Hl) fuel listed a w
  | 0, listed, a, w, E, m, H, md, hf => by
    have hall : ∀ k, k < ops.size → listed.getD k false = true := by
      intro k hk
      have := List.countP_eq_zero.1 hf k (List.mem_range.2 hk)
      simpa using this
    have hready : Region.ready .any ops listed = [] := by
      rw [List.eq_nil_iff_forall_not_mem]
      intro i hi
      obtain ⟨h1, o, ho, _⟩ := mem_ready.1 hi
      have hlt : i < ops.size := (Array.getElem?_eq_some_iff.1 ho).1
      have := hall i hlt
      have hl : i < listed.size := by rw [md.size]; exact hlt
      simp [hl] at h1 this
      rw [h1] at this; cases this
    refine ⟨hready, ?_⟩
    have hcnt : cnt ops listed = (List.range ops.size).countP (effAt ops) := by
      refine List.countP_congr fun k hk => ?_
      rw [hall k (List.mem_range.1 hk)]; simp
    have hH : H = Hl := by
      have := md.at_
      rw [hcnt, hlast] at this
      exact (Option.some.inj this).symm
    subst hH
    refine ⟨m, md.rw_, md.st, md.fr.less fun t => .inr ?_, md.tn, md.df, trivial⟩
    by_cases hex : ∃ (k : Nat) (p : Oper), ops[k]? = some p ∧ p.dst = some t
    · obtain ⟨k, p, hk, hd⟩ := hex
      exact (md.given k p t hk (hall k (Array.getElem?_eq_some_iff.1 hk).1) hd).symm
    · rw [md.other t fun k p hk _ hd => hex ⟨k, p, hk, hd⟩]
      exact hsame t fun k p hk hd => hex ⟨k, p, hk, hd⟩
  | fuel + 1, listed, a, w, E, m, H, md, hf => by
    refine ⟨?_, ?_⟩
    · intro hempty
      exfalso
      have hpos : 0 < (List.range ops.size).countP (fun k => !listed.getD k false) := by omega
      obtain ⟨k, hk, hkl⟩ := List.countP_pos_iff.1 hpos
      have key : ∀ i, i < ops.size → listed.getD i false = false → False := by
        intro i
        induction i using Nat.strongRecOn with
        | _ i ih =>
          intro hi hl
          have ho : ops[i]? = some ops[i] := Array.getElem?_eq_getElem hi
          have hl' : i < listed.size := by rw [md.size]; exact hi
          have : i ∈ Region.ready .any ops listed := by
            refine mem_ready.2 ⟨by simpa [hl'] using hl, _, ho, ?_⟩
            intro e he hbd
            have hlt := hp.back i _ ho e he hbd
            cases hq : listed.getD e.on false with
            | true => rfl
            | false => exact (ih e.on hlt (by omega) hq).elim
          rw [hempty] at this
          cases this
      exact key k (List.mem_range.1 hk) (by simpa using hkl)
    · intro i hi
      refine wpOp_mono ?_ (md.step hti hih hp hb hds told alike hi)
      rintro a' w' ⟨E', m', H', md'⟩
      refine Mid.run hti hih hp hb hds told alike hsame hlast fuel _ a' w' E' m' H' md' ?_
      obtain ⟨h1, o, ho, _⟩ := mem_ready.1 hi
      have hlt : i < ops.size := (Array.getElem?_eq_some_iff.1 ho).1
      have hl : i < listed.size := by rw [md.size]; exact hlt
      have h1' : listed.getD i false = false := by simpa [hl] using h1
      have := countP_upd i (fun k => !(listed.setIfInBounds i true).getD k false) (fun k => !listed.getD k false) (by rw [getD_set_eq hl]; rfl) (by rw [h1']; rfl) (fun k hk => by rw [getD_set_ne false (Ne.symm hk)]) ops.size hlt
      omega
theorem drawS_ok {P : Program} {C : Cx} (hti : ∀ t i, C.ti t = some i → mkTi P t = some i) (hm : P.follows .mixedOrders = true) {ih : Task → Option Out} (hih : IhOk P ih) {ops : Array Oper} {id n base : Nat} {pl : List (Nat × Nat × Nat)} {e : Ex} {env env' : Env} {H H' : Hp} {m : Mp} {w : World} {a : Act}
    (hds : ops.toList.all (dstOk n) = true) (hp : planOk ops pl = true) (h : drawS C ih ops pl env H = some (.code e env' H')) (fr : FR m env a.tmps) (hn : n ≤ a.tmps.size) (hd : a.defers = []) (rw : RW m H w base) :
    (Code.region id ops true).wp P (Post m w base n e env' H') a w := by
  have hp := planOk_spec hp
  unfold drawS at h
  split at h
  · rename_i env1 hs hD
    cases hq : alikeL C ops.toList env1 (H :: hs) ops.toList pl with
    | false => rw [hq] at h; cases h
    | true =>
      rw [hq] at h
      simp only [cond_true] at h
      cases h
      have hdd : ∀ (i j : Nat) (o p : Oper), ops.toList[i]? = some o → ops.toList[j]? = some p → i < j → ∀ d, o.dst = some d → p.dst ≠ some d := by
        intro i j o p ho hpj hij d hdi
        rw [Array.getElem?_toList] at ho hpj
        exact hp.once j i p o hpj ho (by omega) d hdi
      obtain ⟨told, hlen⟩ := opsD_told ops.toList env env' H hs hD hdd
      have hcount : hs.length = (List.range ops.size).countP (effAt ops) := by
        have := take_count ops ops.size (Nat.le_refl _)
        rw [List.take_of_length_le (by simp)] at this
        rw [hlen, this]
      have hrep : ∀ k, (Array.replicate ops.size false).getD k false = false := by
        intro k
        by_cases hk : k < ops.size
        · simp [hk]
        · have h1 : (Array.replicate ops.size false)[k]? = none := Array.getElem?_eq_none (by simp; omega)
          simp [h1]
      refine wp_region_any hm ?_
      have rw' : RW m H { w with drawn := w.drawn + 1 } base := rw.drawn _
      have hlk : ∀ t, (∀ (k : Nat) (p : Oper), ops[k]? = some p → p.dst ≠ some t) → look env' t = look env t := fun t ht => opsD_look ops.toList env env' H hs hD fun o ho => by
        obtain ⟨k, hk⟩ := List.mem_iff_getElem?.1 ho
        rw [Array.getElem?_toList] at hk
        exact ht k o hk
      refine Mid.run hti hih hp rw.base_le hds told hq hlk (Hl := lastH H hs) (by rw [← hcount]; exact lastH_get hs H) ops.size (Array.replicate ops.size false) a { w with drawn := w.drawn + 1 } env m H ⟨by simp, ?_, fr, hn, hd, fun _ _ => rfl, ?_, ?_, rw', St.drawn _ _ _ _⟩ ?_
      · intro i o _ hl
        rw [hrep] at hl; cases hl
      · intro k p d _ hl
        rw [hrep] at hl; cases hl
      · have : cnt ops (Array.replicate ops.size false) = 0 := by
          rw [cnt, List.countP_eq_zero]
          intro k _
          rw [hrep]; simp
        rw [this]; rfl
      · rw [List.countP_eq_length.2]
        · simp
        · intro k hk
          rw [hrep]; rfl
  · cases h
end Go.Proofs.Ytnikdnchoahngaa.Am
