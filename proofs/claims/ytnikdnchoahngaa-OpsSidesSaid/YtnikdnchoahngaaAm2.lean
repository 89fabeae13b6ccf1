/- How the abstract machine's values and memory stand to Go's: no program in sight. -/
import Derived.Test.YtnikdnchoahngaaAm1
import Derived.Below
set_option linter.unusedVariables false
namespace Go.Proofs.Ytnikdnchoahngaa.Am
open Go

structure Hp where
  next : Nat
  t : Tr

/-- where root r lies, as it stood when it had v cells: the block, and how many cells the block has -/
abbrev Mp := Nat → Nat → Option (Nat × Nat)

mutual
def VR (m : Mp) : AV → Value → Prop
  | .top, _ => True
  | .int k n, c => c = .int k n
  | .resid k q r, c => ∃ n : Int, c = .int k n ∧ (n % 18446744073709551616) % q = r ∧ (k = .u64 → 0 ≤ n ∧ n < 18446744073709551616)
  | .bool b, c => c = .bool b
  | .str s, c => ∃ t : ByteArray, c = .string t ∧ t.data.toList.map (·.toNat) = s
  | .nilp, c => c = .pointer none
  | .ptr r v off, c => ∃ B N, m r v = some (B, N) ∧ c = .pointer (some ⟨B, off, none⟩)
  | .nils, c => c = .slice none 0 0
  | .slice r v off len sz, c => ∃ B N cap, m r v = some (B, N) ∧ off + len * sz ≤ v ∧ len ≤ cap ∧ off + cap * sz ≤ N ∧ c = .slice (some ⟨B, off, none⟩) len cap
  | .agg xs, c => ∃ ys, c = .agg ys ∧ VRs m xs ys.toList
  | .tuple xs, c => ∃ ys, c = .tuple ys ∧ VRs m xs ys.toList
  | .func f a b, c => ∃ ys zs, c = .func (.func f) ys zs ∧ VRs m a ys.toList ∧ VRs m b zs.toList
  | .nilf, c => c = .nilFunc
  | .iface t v, c => ∃ d, c = .iface t d ∧ VR m v d
  | .nili, c => c = .nilIface
def VRs (m : Mp) : List AV → List Value → Prop
  | [], l => l = []
  | x :: xs, l => ∃ y ys, l = y :: ys ∧ VR m x y ∧ VRs m xs ys
end

def Sub (m m' : Mp) : Prop := ∀ r v p, m r v = some p → m' r v = some p
theorem Sub.refl (m : Mp) : Sub m m := fun _ _ _ h => h
theorem Sub.trans {m m' m'' : Mp} (h : Sub m m') (k : Sub m' m'') : Sub m m'' := fun r v p e => k r v p (h r v p e)

mutual
theorem VR.mono {m m' : Mp} (h : Sub m m') : ∀ (x : AV) (c : Value), VR m x c → VR m' x c
  | .top, _, _ => by simp only [VR]
  | .int .., _, e => by simpa only [VR] using e
  | .resid .., _, e => by simpa only [VR] using e
  | .bool _, _, e => by simpa only [VR] using e
  | .str _, _, e => by simpa only [VR] using e
  | .nilp, _, e => by simpa only [VR] using e
  | .nils, _, e => by simpa only [VR] using e
  | .nilf, _, e => by simpa only [VR] using e
  | .nili, _, e => by simpa only [VR] using e
  | .ptr r v off, c, e => by
    simp only [VR] at e ⊢
    obtain ⟨B, N, h1, h2⟩ := e
    exact ⟨B, N, h _ _ _ h1, h2⟩
  | .slice r v off len sz, c, e => by
    simp only [VR] at e ⊢
    obtain ⟨B, N, cap, h1, h2⟩ := e
    exact ⟨B, N, cap, h _ _ _ h1, h2⟩
  | .agg xs, c, e => by
    simp only [VR] at e ⊢
    obtain ⟨ys, h1, h2⟩ := e
    exact ⟨ys, h1, VRs.mono h xs _ h2⟩
  | .tuple xs, c, e => by
    simp only [VR] at e ⊢
    obtain ⟨ys, h1, h2⟩ := e
    exact ⟨ys, h1, VRs.mono h xs _ h2⟩
  | .func f a b, c, e => by
    simp only [VR] at e ⊢
    obtain ⟨ys, zs, h1, h2, h3⟩ := e
    exact ⟨ys, zs, h1, VRs.mono h a _ h2, VRs.mono h b _ h3⟩
  | .iface t v, c, e => by
    simp only [VR] at e ⊢
    obtain ⟨d, h1, h2⟩ := e
    exact ⟨d, h1, VR.mono h v _ h2⟩
theorem VRs.mono {m m' : Mp} (h : Sub m m') : ∀ (xs : List AV) (cs : List Value), VRs m xs cs → VRs m' xs cs
  | [], _, e => by simpa only [VRs] using e
  | x :: xs, cs, e => by
    simp only [VRs] at e ⊢
    obtain ⟨y, ys, rfl, h1, h2⟩ := e
    exact ⟨y, ys, rfl, VR.mono h x y h1, VRs.mono h xs ys h2⟩
end

theorem VRs.length {m : Mp} : ∀ {xs : List AV} {cs : List Value}, VRs m xs cs → xs.length = cs.length
  | [], _, h => by simp only [VRs] at h; subst h; rfl
  | x :: xs, cs, h => by
    simp only [VRs] at h
    obtain ⟨y, ys, rfl, _, h2⟩ := h
    simp [VRs.length h2]
theorem VRs.get {m : Mp} : ∀ {xs : List AV} {cs : List Value}, VRs m xs cs → ∀ (i : Nat) (x : AV), xs[i]? = some x → ∃ c, cs[i]? = some c ∧ VR m x c
  | [], _, _, i, x, e => by simp at e
  | x :: xs, cs, h, i, z, e => by
    simp only [VRs] at h
    obtain ⟨y, ys, rfl, h1, h2⟩ := h
    cases i with
    | zero => simp at e; subst e; exact ⟨y, by simp, h1⟩
    | succ i => simp at e; obtain ⟨c, hc, hv⟩ := VRs.get h2 i z e; exact ⟨c, by simpa using hc, hv⟩
theorem VRs.take {m : Mp} : ∀ {xs : List AV} {cs : List Value} (n : Nat), VRs m xs cs → VRs m (xs.take n) (cs.take n)
  | [], cs, n, h => by simp only [VRs] at h; subst h; simp [VRs]
  | x :: xs, cs, n, h => by
    simp only [VRs] at h
    obtain ⟨y, ys, rfl, h1, h2⟩ := h
    cases n with
    | zero => simp [VRs]
    | succ n => simp only [List.take_succ_cons, VRs]; exact ⟨y, _, rfl, h1, VRs.take n h2⟩
theorem VRs.drop {m : Mp} : ∀ {xs : List AV} {cs : List Value} (n : Nat), VRs m xs cs → VRs m (xs.drop n) (cs.drop n)
  | [], cs, n, h => by simp only [VRs] at h; subst h; simp [VRs]
  | x :: xs, cs, n, h => by
    cases n with
    | zero => simpa using h
    | succ n =>
      simp only [VRs] at h
      obtain ⟨y, ys, rfl, h1, h2⟩ := h
      simpa using VRs.drop n h2
theorem VRs.append {m : Mp} : ∀ {xs : List AV} {cs : List Value} {zs : List AV} {ds : List Value}, VRs m xs cs → VRs m zs ds → VRs m (xs ++ zs) (cs ++ ds)
  | [], cs, zs, ds, h, k => by simp only [VRs] at h; subst h; simpa using k
  | x :: xs, cs, zs, ds, h, k => by
    simp only [VRs] at h
    obtain ⟨y, ys, rfl, h1, h2⟩ := h
    simp only [List.cons_append, VRs]
    exact ⟨y, _, rfl, h1, VRs.append h2 k⟩
theorem VRs.set {m : Mp} : ∀ {xs : List AV} {cs : List Value} (i : Nat) (x : AV) (c : Value), VRs m xs cs → VR m x c → VRs m (xs.set i x) (cs.set i c)
  | [], cs, i, x, c, h, _ => by simp only [VRs] at h; subst h; simp [VRs]
  | x :: xs, cs, i, z, c, h, k => by
    simp only [VRs] at h
    obtain ⟨y, ys, rfl, h1, h2⟩ := h
    cases i with
    | zero => simp only [List.set_cons_zero, VRs]; exact ⟨c, _, rfl, k, h2⟩
    | succ i => simp only [List.set_cons_succ, VRs]; exact ⟨y, _, rfl, h1, VRs.set i z c h2 k⟩

/-- A block's cells may be written. -/
def Free (fr : Nat × Nat) (N : Nat) : Prop := ∀ i, i < N → ¬ (fr.1 ≤ i ∧ i < fr.2)

/-- The memory stands as told. -/
structure RW (m : Mp) (H : Hp) (w : World) (base : Nat) : Prop where
  blk : ∀ r b v B N, H.t.get r = some b → m r v = some (B, N) → b.minv ≤ v → v ≤ b.cells.length →
    ∃ cs ty fr, w.heap[B]? = some (.cells cs ty fr) ∧ cs.size = N ∧ v ≤ N ∧ (b.ro = false → Free fr N) ∧ VRs m (b.cells.take v) (cs.toList.take v)
  dom : ∀ r v B N, m r v = some (B, N) → ∃ b, H.t.get r = some b ∧ v ≤ b.cells.length ∧ B < w.heap.size ∧ (b.ro = false → base ≤ B)
  sep : ∀ r v B N r' v' N', m r v = some (B, N) → m r' v' = some (B, N') → base ≤ B → r = r'
  fresh : ∀ r, H.next ≤ r → H.t.get r = none
  vle : ∀ r v B N, m r v = some (B, N) → v ≤ N
  base_le : base ≤ w.heap.size
  low : H.next ≤ roots

/-- What a step leaves: the map has grown; what is new in it is new, or lies where its root lay; all else is as it was. -/
structure St (m : Mp) (w : World) (base : Nat) (m' : Mp) (w' : World) : Prop where
  sub : Sub m m'
  ext : ∀ r v B N, m' r v = some (B, N) → (∃ v0 N0, m r v0 = some (B, N0)) ∨ w.heap.size ≤ B
  size : w.heap.size ≤ w'.heap.size
  os : w'.os = w.os
  tape : w'.tape = w.tape
  output : w'.output = w.output
  same : ∀ B, B < w.heap.size → (∀ r v N, m r v = some (B, N) → B < base) → w'.heap[B]? = w.heap[B]?

theorem St.refl (m : Mp) (w : World) (base : Nat) : St m w base m w :=
  ⟨Sub.refl m, fun r v B N h => .inl ⟨v, N, h⟩, Nat.le_refl _, rfl, rfl, rfl, fun _ _ _ => rfl⟩
theorem St.trans {m m' m'' : Mp} {w w' w'' : World} {base : Nat} (hb : base ≤ w.heap.size) (h : St m w base m' w') (k : St m' w' base m'' w'') : St m w base m'' w'' where
  sub := h.sub.trans k.sub
  ext := by
    intro r v B N e
    rcases k.ext r v B N e with ⟨v0, N0, e0⟩ | hB
    · exact h.ext r v0 B N0 e0
    · exact .inr (Nat.le_trans h.size hB)
  size := Nat.le_trans h.size k.size
  os := k.os.trans h.os
  tape := k.tape.trans h.tape
  output := k.output.trans h.output
  same := by
    intro B hB hm
    rw [k.same B (Nat.lt_of_lt_of_le hB h.size) ?_, h.same B hB hm]
    intro r v N e
    rcases h.ext r v B N e with ⟨v0, N0, e0⟩ | hB'
    · exact hm r v0 N0 e0
    · omega
theorem St.below {m m' : Mp} {w w' : World} {base : Nat} (hb : base ≤ w.heap.size) (h : St m w base m' w') : RowKit.Below base w w' :=
  ⟨h.os, h.tape, h.output, h.size, fun i hi => h.same i (by omega) (fun _ _ _ _ => hi)⟩
/-- Draws alone. -/
theorem St.drawn (m : Mp) (w : World) (base n : Nat) : St m w base m { w with drawn := n } :=
  ⟨Sub.refl m, fun r v B N h => .inl ⟨v, N, h⟩, Nat.le_refl _, rfl, rfl, rfl, fun _ _ _ => rfl⟩
theorem RW.drawn {m : Mp} {H : Hp} {w : World} {base : Nat} (h : RW m H w base) (n : Nat) : RW m H { w with drawn := n } base :=
  ⟨h.blk, h.dom, h.sep, h.fresh, h.vle, h.base_le, h.low⟩

/-- What is known of a frame's slots. -/
abbrev Env := PT AV
noncomputable def look (env : Env) (t : Nat) : AV := match PT.get env t with | some v => v | none => .top
noncomputable def putE (env : Env) (d : Nat) (v : AV) : Env := PT.set (Nat.succ d) env d v
theorem look_nil (t : Nat) : look .nil t = .top := rfl
theorem look_put (u : Nat) (v : AV) (r : Env) (t : Nat) : look (putE r u v) t = if u = t then v else look r t := by
  unfold look putE
  by_cases e : u = t
  · subst e
    rw [PT.get_set_eq _ _ _ _ (Nat.lt_two_pow_self), if_pos rfl]
  · rw [PT.get_set_ne _ _ _ _ _ e, if_neg e]
def FR (m : Mp) (env : Env) (tmps : Array Value) : Prop := ∀ t, look env t ≠ .top → ∃ c, tmps[t]? = some c ∧ VR m (look env t) c
theorem FR.mono {m m' : Mp} (h : Sub m m') {env : Env} {tmps : Array Value} (k : FR m env tmps) : FR m' env tmps := by
  intro t ht
  obtain ⟨c, h1, h2⟩ := k t ht
  exact ⟨c, h1, VR.mono h _ _ h2⟩
/-- What a slot's reading gives, whether it is known or not. -/
theorem FR.getD {m : Mp} {env : Env} {tmps : Array Value} (k : FR m env tmps) (t : Nat) : VR m (look env t) (tmps.getD t undef) := by
  by_cases ht : look env t = .top
  · rw [ht]; simp only [VR]
  · obtain ⟨c, h1, h2⟩ := k t ht
    have : tmps.getD t undef = c := by simp [Array.getD_eq_getD_getElem?, h1]
    rw [this]; exact h2
theorem FR.put {m : Mp} {env : Env} {tmps : Array Value} (k : FR m env tmps) (d : Nat) (v : AV) (c : Value) (hv : VR m v c) (hd : d < tmps.size ∨ v = .top) : FR m (putE env d v) (tmps.setIfInBounds d c) := by
  intro t ht
  simp only [look_put] at ht ⊢
  by_cases e : d = t
  · subst e
    simp only [if_true] at ht ⊢
    rcases hd with hd | rfl
    · exact ⟨c, by simp [hd], hv⟩
    · exact absurd rfl ht
  · rw [if_neg e] at ht ⊢
    obtain ⟨c', h1, h2⟩ := k t ht
    exact ⟨c', by rw [Array.getElem?_setIfInBounds_ne e]; exact h1, h2⟩
/-- Less may be known. -/
def Less (env env' : Env) : Prop := ∀ t, look env' t = .top ∨ look env' t = look env t
theorem FR.less {m : Mp} {env env' : Env} {tmps : Array Value} (k : FR m env tmps) (h : Less env env') : FR m env' tmps := by
  intro t ht
  rcases h t with e | e
  · exact absurd e ht
  · rw [e] at ht ⊢; exact k t ht
noncomputable def keepOnly (env : Env) : List Nat → Env
  | [] => .nil
  | k :: ks => putE (keepOnly env ks) k (look env k)
theorem look_keepOnly (env : Env) (t : Nat) : ∀ ks : List Nat, look (keepOnly env ks) t = if t ∈ ks then look env t else .top
  | [] => by simp [keepOnly, look_nil]
  | k :: ks => by
    simp only [keepOnly, look_put, look_keepOnly env t ks]
    by_cases e : k = t
    · subst e; simp
    · simp [e, Ne.symm e]
theorem less_keepOnly (ks : List Nat) (env : Env) : Less env (keepOnly env ks) := by
  intro t
  rw [look_keepOnly]
  split
  · exact .inr rfl
  · exact .inl rfl
end Go.Proofs.Ytnikdnchoahngaa.Am
