/- An abstract machine for the Go code of this seat: values, memory, one function that runs code; no proof yet. -/
import Derived.Orders
import Derived.LoopN
import Derived.Below
import Derived.Laws.IdiomCopy
namespace Go.Proofs.Ytfkefelgjbfkjaa.Am
open Go

/-- What is known of a value; 'top': nothing. Memory: root r as it stood when it had v cells, from cell off on. 'vec', 'vptr': a slice of, a pointer to, memory that is never written again; 'own': a slice that begins with its memory, or none. -/
inductive AV where
  | top
  | int (k : IntKind) (n : Int)
  | resid (k : IntKind) (q r : Nat)
  | bool (b : Bool)
  | str (s : List Nat)
  | nilp
  | ptr (r v off : Nat)
  | nils
  | slice (r v off len sz : Nat)
  | agg (xs : List AV)
  | tuple (xs : List AV)
  | func (f : Nat) (first caps : List AV)
  | nilf
  | iface (t : Nat) (v : AV)
  | nili
  | vec (n sz : Nat) (cells : List AV)
  | vptr (cells : List AV)
  | own (r len sz : Nat)
  deriving Inhabited

/-- Memory that was made: its cells; what stood in it before it was written (fewer cells than minv) is not told any more. -/
structure Blk where
  cells : List AV
  minv : Nat
  ro : Bool

/-- A table keyed by numbers; spelt so that the kernel runs it fast. -/
inductive PT (α : Type) where
  | nil
  | node (l : PT α) (b : Option α) (r : PT α)
noncomputable def PT.get {α : Type} (t : PT α) : Nat → Option α :=
  PT.rec (motive := fun _ => Nat → Option α) (fun _ => none) (fun _ b _ gl gr n => Bool.rec (motive := fun _ => Option α) (Bool.rec (motive := fun _ => Option α) (gl (Nat.shiftRight n 1)) (gr (Nat.sub (Nat.shiftRight n 1) 1)) (Nat.beq (Nat.land n 1) 0)) b (Nat.beq n 0)) t
def PT.left {α : Type} : PT α → PT α
  | .nil => .nil
  | .node l _ _ => l
def PT.right {α : Type} : PT α → PT α
  | .nil => .nil
  | .node _ _ r => r
def PT.mid {α : Type} : PT α → Option α
  | .nil => none
  | .node _ b _ => b
noncomputable def PT.set {α : Type} (k : Nat) : PT α → Nat → α → PT α :=
  Nat.rec (motive := fun _ => PT α → Nat → α → PT α) (fun t _ _ => t)
    (fun _ ih t n x => Bool.rec (motive := fun _ => PT α) (Bool.rec (motive := fun _ => PT α) (.node (ih t.left (Nat.shiftRight n 1) x) t.mid t.right) (.node t.left t.mid (ih t.right (Nat.sub (Nat.shiftRight n 1) 1) x)) (Nat.beq (Nat.land n 1) 0)) (.node t.left (some x) t.right) (Nat.beq n 0)) k
abbrev Tr := PT Blk
theorem PT.get_nil {α : Type} (n : Nat) : (PT.nil : PT α).get n = none := rfl
theorem PT.get_node {α : Type} (l : PT α) (b : Option α) (r : PT α) (n : Nat) : (PT.node l b r).get n = if n = 0 then b else if n % 2 = 1 then l.get (n / 2) else r.get (n / 2 - 1) := by
  show (Bool.rec (motive := fun _ => Option α) (Bool.rec (motive := fun _ => Option α) (l.get (Nat.shiftRight n 1)) (r.get (Nat.sub (Nat.shiftRight n 1) 1)) (Nat.beq (Nat.land n 1) 0)) b (Nat.beq n 0)) = _
  have h1 : Nat.land n 1 = n % 2 := Nat.and_one_is_mod n
  have h2 : Nat.shiftRight n 1 = n / 2 := rfl
  rw [h1, h2]
  by_cases h0 : n = 0
  · subst h0; rfl
  · have e0 : Nat.beq n 0 = false := by cases n with | zero => exact absurd rfl h0 | succ n => rfl
    rw [e0, if_neg h0]
    by_cases hm : n % 2 = 1
    · rw [hm, if_pos rfl]; rfl
    · have : n % 2 = 0 := by omega
      rw [this, if_neg (by omega)]; rfl
theorem PT.get_parts {α : Type} (t : PT α) (n : Nat) : t.get n = if n = 0 then t.mid else if n % 2 = 1 then t.left.get (n / 2) else t.right.get (n / 2 - 1) := by
  cases t with
  | nil =>
    simp only [PT.mid, PT.left, PT.right, PT.get_nil]
    split
    · rfl
    · split <;> rfl
  | node l b r => exact PT.get_node l b r n
theorem PT.set_zero {α : Type} (t : PT α) (n : Nat) (x : α) : PT.set 0 t n x = t := rfl
theorem PT.set_succ {α : Type} (k : Nat) (t : PT α) (n : Nat) (x : α) : PT.set (k + 1) t n x = if n = 0 then .node t.left (some x) t.right else if n % 2 = 1 then .node (PT.set k t.left (n / 2) x) t.mid t.right else .node t.left t.mid (PT.set k t.right (n / 2 - 1) x) := by
  show (Bool.rec (motive := fun _ => PT α) (Bool.rec (motive := fun _ => PT α) (.node (PT.set k t.left (Nat.shiftRight n 1) x) t.mid t.right) (.node t.left t.mid (PT.set k t.right (Nat.sub (Nat.shiftRight n 1) 1) x)) (Nat.beq (Nat.land n 1) 0)) (PT.node t.left (some x) t.right) (Nat.beq n 0)) = _
  have h1 : Nat.land n 1 = n % 2 := Nat.and_one_is_mod n
  have h2 : Nat.shiftRight n 1 = n / 2 := rfl
  rw [h1, h2]
  by_cases h0 : n = 0
  · subst h0; rfl
  · have e0 : Nat.beq n 0 = false := by cases n with | zero => exact absurd rfl h0 | succ n => rfl
    rw [e0, if_neg h0]
    by_cases hm : n % 2 = 1
    · rw [hm, if_pos rfl]; rfl
    · have : n % 2 = 0 := by omega
      rw [this, if_neg (by omega)]; rfl

/-- The bound on how much memory is made: so many roots. -/
def roots : Nat := 2 ^ 40
def depth : Nat := 41

theorem PT.get_set_eq {α : Type} : ∀ (k : Nat) (t : PT α) (n : Nat) (x : α), n + 1 < 2 ^ k → (PT.set k t n x).get n = some x
  | 0, _, n, _, h => by simp at h
  | k + 1, t, n, x, h => by
    have ih := fun t m hm => PT.get_set_eq k t m x hm
    have h2 : (2 : Nat) ^ (k + 1) = 2 * 2 ^ k := by rw [Nat.pow_succ]; omega
    rw [h2] at h
    rw [PT.set_succ]
    by_cases h0 : n = 0
    · rw [if_pos h0, PT.get_node, if_pos h0]
    · rw [if_neg h0]
      by_cases h1 : n % 2 = 1
      · rw [if_pos h1, PT.get_node, if_neg h0, if_pos h1]; exact ih _ _ (by omega)
      · rw [if_neg h1, PT.get_node, if_neg h0, if_neg h1]; exact ih _ _ (by omega)
theorem PT.get_set_ne {α : Type} : ∀ (k : Nat) (t : PT α) (n m : Nat) (x : α), n ≠ m → (PT.set k t n x).get m = t.get m
  | 0, _, _, _, _, _ => rfl
  | k + 1, t, n, m, x, h => by
    have ih := fun t n m hm => PT.get_set_ne k t n m x hm
    rw [PT.set_succ, PT.get_parts t m]
    by_cases h0 : n = 0
    · rw [if_pos h0, PT.get_node]
      have m0 : m ≠ 0 := by omega
      rw [if_neg m0, if_neg m0]
    · rw [if_neg h0]
      by_cases h1 : n % 2 = 1
      · rw [if_pos h1, PT.get_node]
        by_cases m0 : m = 0
        · rw [if_pos m0, if_pos m0]
        · rw [if_neg m0, if_neg m0]
          by_cases m1 : m % 2 = 1
          · rw [if_pos m1, if_pos m1]; exact ih _ _ _ (by omega)
          · rw [if_neg m1, if_neg m1]
      · rw [if_neg h1, PT.get_node]
        by_cases m0 : m = 0
        · rw [if_pos m0, if_pos m0]
        · rw [if_neg m0, if_neg m0]
          by_cases m1 : m % 2 = 1
          · rw [if_pos m1, if_pos m1]
          · rw [if_neg m1, if_neg m1]; exact ih _ _ _ (by omega)
noncomputable abbrev Tr.set (k : Nat) (t : Tr) (n : Nat) (x : Blk) : Tr := PT.set k t n x
noncomputable abbrev Tr.get (t : Tr) (n : Nat) : Option Blk := PT.get t n
theorem Tr.get_set_eq (k : Nat) (t : Tr) (n : Nat) (x : Blk) (h : n + 1 < 2 ^ k) : (Tr.set k t n x).get n = some x := PT.get_set_eq k t n x h
theorem Tr.get_set_ne (k : Nat) (t : Tr) (n m : Nat) (x : Blk) (h : n ≠ m) : (Tr.set k t n x).get m = t.get m := PT.get_set_ne k t n m x h
end Go.Proofs.Ytfkefelgjbfkjaa.Am

/-! How the abstract machine's values and memory stand to Go's: no program in sight. -/
set_option linter.unusedVariables false
namespace Go.Proofs.Ytfkefelgjbfkjaa.Am
open Go

structure Hp where
  next : Nat
  t : Tr

/-- where root r lies, as it stood when it had v cells: the block, and how many cells the block has -/
structure Mp where
  map : Nat → Nat → Option (Nat × Nat)
  froz : Nat → Option (Nat × List AV)
instance : CoeFun Mp (fun _ => Nat → Nat → Option (Nat × Nat)) := ⟨Mp.map⟩
/-- What is frozen alone. -/
def Mp.still (m : Mp) : Mp := ⟨fun _ _ => none, m.froz⟩

mutual
def VR (m : Mp) : AV → Value → Prop
  | .top, _ => True
  | .int k n, c => c = .int k n
  | .resid k q r, c => ∃ n : Int, c = .int k n ∧ (n % 18446744073709551616) % q = r ∧ (k = .u64 → 0 ≤ n ∧ n < 18446744073709551616)
  | .bool b, c => c = .bool b
  | .str s, c => ∃ t : ByteArray, c = .string t ∧ t.data.toList.map (·.toNat) = s
  | .nilp, c => c = .pointer none
  | .ptr r v off, c => ∃ B N, m r v = some (B, N) ∧ c = .pointer (some ⟨B, off, none⟩)
  | .nils, c => c = .slice none 0 0
  | .slice r v off len sz, c => ∃ B N cap, m r v = some (B, N) ∧ off + len * sz ≤ v ∧ len ≤ cap ∧ off + cap * sz ≤ N ∧ c = .slice (some ⟨B, off, none⟩) len cap
  | .agg xs, c => ∃ ys, c = .agg ys ∧ VRs m xs ys.toList
  | .tuple xs, c => ∃ ys, c = .tuple ys ∧ VRs m xs ys.toList
  | .func f a b, c => ∃ ys zs, c = .func (.func f) ys zs ∧ VRs m a ys.toList ∧ VRs m b zs.toList
  | .nilf, c => c = .nilFunc
  | .iface t v, c => ∃ d, c = .iface t d ∧ VR m v d
  | .nili, c => c = .nilIface
  | .vec n sz cells, c => cells.length = n * sz ∧ ∃ a cap, c = .slice a n cap ∧ n ≤ cap ∧ (a = none → n = 0 ∧ cap = 0) ∧ (0 < n → ∃ id B off all, m.froz id = some (B, all) ∧ a = some ⟨B, off, none⟩ ∧ (all.drop off).take (n * sz) = cells ∧ off + n * sz ≤ all.length)
  | .vptr cells, c => ∃ id B off all, m.froz id = some (B, all) ∧ c = .pointer (some ⟨B, off, none⟩) ∧ (all.drop off).take cells.length = cells ∧ off + cells.length ≤ all.length
  | .own r len sz, c => (len = 0 ∧ c = .slice none 0 0) ∨ ∃ B N cap, m r (len * sz) = some (B, N) ∧ len ≤ cap ∧ cap * sz ≤ N ∧ c = .slice (some ⟨B, 0, none⟩) len cap
def VRs (m : Mp) : List AV → List Value → Prop
  | [], l => l = []
  | x :: xs, l => ∃ y ys, l = y :: ys ∧ VR m x y ∧ VRs m xs ys
end

def Sub (m m' : Mp) : Prop := (∀ r v p, m r v = some p → m' r v = some p) ∧ (∀ i p, m.froz i = some p → m'.froz i = some p)
theorem Sub.refl (m : Mp) : Sub m m := ⟨fun _ _ _ h => h, fun _ _ h => h⟩
theorem still_sub (m : Mp) : Sub m.still m := ⟨fun _ _ _ h => (by cases h), fun _ _ h => h⟩
theorem still_mono {m m' : Mp} (h : Sub m m') : Sub m.still m'.still := ⟨fun _ _ _ h => (by cases h), h.2⟩
theorem Sub.trans {m m' m'' : Mp} (h : Sub m m') (k : Sub m' m'') : Sub m m'' := ⟨fun r v p e => k.1 r v p (h.1 r v p e), fun i p e => k.2 i p (h.2 i p e)⟩

mutual
theorem VR.mono {m m' : Mp} (h : Sub m m') : ∀ (x : AV) (c : Value), VR m x c → VR m' x c
  | .top, _, _ => by simp only [VR]
  | .int .., _, e => by simpa only [VR] using e
  | .resid .., _, e => by simpa only [VR] using e
  | .bool _, _, e => by simpa only [VR] using e
  | .str _, _, e => by simpa only [VR] using e
  | .nilp, _, e => by simpa only [VR] using e
  | .nils, _, e => by simpa only [VR] using e
  | .nilf, _, e => by simpa only [VR] using e
  | .nili, _, e => by simpa only [VR] using e
  | .ptr r v off, c, e => by
    simp only [VR] at e ⊢
    obtain ⟨B, N, h1, h2⟩ := e
    exact ⟨B, N, h.1 _ _ _ h1, h2⟩
  | .slice r v off len sz, c, e => by
    simp only [VR] at e ⊢
    obtain ⟨B, N, cap, h1, h2⟩ := e
    exact ⟨B, N, cap, h.1 _ _ _ h1, h2⟩
  | .agg xs, c, e => by
    simp only [VR] at e ⊢
    obtain ⟨ys, h1, h2⟩ := e
    exact ⟨ys, h1, VRs.mono h xs _ h2⟩
  | .tuple xs, c, e => by
    simp only [VR] at e ⊢
    obtain ⟨ys, h1, h2⟩ := e
    exact ⟨ys, h1, VRs.mono h xs _ h2⟩
  | .func f a b, c, e => by
    simp only [VR] at e ⊢
    obtain ⟨ys, zs, h1, h2, h3⟩ := e
    exact ⟨ys, zs, h1, VRs.mono h a _ h2, VRs.mono h b _ h3⟩
  | .iface t v, c, e => by
    simp only [VR] at e ⊢
    obtain ⟨d, h1, h2⟩ := e
    exact ⟨d, h1, VR.mono h v _ h2⟩
  | .vec n sz cells, c, e => by
    simp only [VR] at e ⊢
    obtain ⟨h0, a, cap, h1, h2, h3, h4⟩ := e
    exact ⟨h0, a, cap, h1, h2, h3, fun hn => let ⟨i, B, off, all, q, r⟩ := h4 hn; ⟨i, B, off, all, h.2 _ _ q, r⟩⟩
  | .vptr cells, c, e => by
    simp only [VR] at e ⊢
    obtain ⟨i, B, off, all, q, r⟩ := e
    exact ⟨i, B, off, all, h.2 _ _ q, r⟩
  | .own r len sz, c, e => by
    simp only [VR] at e ⊢
    rcases e with e | ⟨B, N, cap, h1, h2⟩
    · exact .inl e
    · exact .inr ⟨B, N, cap, h.1 _ _ _ h1, h2⟩
theorem VRs.mono {m m' : Mp} (h : Sub m m') : ∀ (xs : List AV) (cs : List Value), VRs m xs cs → VRs m' xs cs
  | [], _, e => by simpa only [VRs] using e
  | x :: xs, cs, e => by
    simp only [VRs] at e ⊢
    obtain ⟨y, ys, rfl, h1, h2⟩ := e
    exact ⟨y, ys, rfl, VR.mono h x y h1, VRs.mono h xs ys h2⟩
end

theorem VRs.length {m : Mp} : ∀ {xs : List AV} {cs : List Value}, VRs m xs cs → xs.length = cs.length
  | [], _, h => by simp only [VRs] at h; subst h; rfl
  | x :: xs, cs, h => by
    simp only [VRs] at h
    obtain ⟨y, ys, rfl, _, h2⟩ := h
    simp [VRs.length h2]
theorem VRs.get {m : Mp} : ∀ {xs : List AV} {cs : List Value}, VRs m xs cs → ∀ (i : Nat) (x : AV), xs[i]? = some x → ∃ c, cs[i]? = some c ∧ VR m x c
  | [], _, _, i, x, e => by simp at e
  | x :: xs, cs, h, i, z, e => by
    simp only [VRs] at h
    obtain ⟨y, ys, rfl, h1, h2⟩ := h
    cases i with
    | zero => simp at e; subst e; exact ⟨y, by simp, h1⟩
    | succ i => simp at e; obtain ⟨c, hc, hv⟩ := VRs.get h2 i z e; exact ⟨c, by simpa using hc, hv⟩
theorem VRs.take {m : Mp} : ∀ {xs : List AV} {cs : List Value} (n : Nat), VRs m xs cs → VRs m (xs.take n) (cs.take n)
  | [], cs, n, h => by simp only [VRs] at h; subst h; simp [VRs]
  | x :: xs, cs, n, h => by
    simp only [VRs] at h
    obtain ⟨y, ys, rfl, h1, h2⟩ := h
    cases n with
    | zero => simp [VRs]
    | succ n => simp only [List.take_succ_cons, VRs]; exact ⟨y, _, rfl, h1, VRs.take n h2⟩
theorem VRs.drop {m : Mp} : ∀ {xs : List AV} {cs : List Value} (n : Nat), VRs m xs cs → VRs m (xs.drop n) (cs.drop n)
  | [], cs, n, h => by simp only [VRs] at h; subst h; simp [VRs]
  | x :: xs, cs, n, h => by
    cases n with
    | zero => simpa using h
    | succ n =>
      simp only [VRs] at h
      obtain ⟨y, ys, rfl, h1, h2⟩ := h
      simpa using VRs.drop n h2
theorem VRs.append {m : Mp} : ∀ {xs : List AV} {cs : List Value} {zs : List AV} {ds : List Value}, VRs m xs cs → VRs m zs ds → VRs m (xs ++ zs) (cs ++ ds)
  | [], cs, zs, ds, h, k => by simp only [VRs] at h; subst h; simpa using k
  | x :: xs, cs, zs, ds, h, k => by
    simp only [VRs] at h
    obtain ⟨y, ys, rfl, h1, h2⟩ := h
    simp only [List.cons_append, VRs]
    exact ⟨y, _, rfl, h1, VRs.append h2 k⟩
theorem VRs.set {m : Mp} : ∀ {xs : List AV} {cs : List Value} (i : Nat) (x : AV) (c : Value), VRs m xs cs → VR m x c → VRs m (xs.set i x) (cs.set i c)
  | [], cs, i, x, c, h, _ => by simp only [VRs] at h; subst h; simp [VRs]
  | x :: xs, cs, i, z, c, h, k => by
    simp only [VRs] at h
    obtain ⟨y, ys, rfl, h1, h2⟩ := h
    cases i with
    | zero => simp only [List.set_cons_zero, VRs]; exact ⟨c, _, rfl, k, h2⟩
    | succ i => simp only [List.set_cons_succ, VRs]; exact ⟨y, _, rfl, h1, VRs.set i z c h2 k⟩

/-- A block's cells may be written. -/
def Free (fr : Nat × Nat) (N : Nat) : Prop := ∀ i, i < N → ¬ (fr.1 ≤ i ∧ i < fr.2)

/-- The memory stands as told. -/
structure RW (m : Mp) (H : Hp) (w : World) (base : Nat) : Prop where
  blk : ∀ r b v B N, H.t.get r = some b → m r v = some (B, N) → b.minv ≤ v → v ≤ b.cells.length →
    ∃ cs ty fr, w.heap[B]? = some (.cells cs ty fr) ∧ cs.size = N ∧ v ≤ N ∧ (b.ro = false → Free fr N) ∧ VRs m (b.cells.take v) (cs.toList.take v)
  dom : ∀ r v B N, m r v = some (B, N) → ∃ b, H.t.get r = some b ∧ v ≤ b.cells.length ∧ B < w.heap.size ∧ (b.ro = false → base ≤ B)
  sep : ∀ r v B N r' v' N', m r v = some (B, N) → m r' v' = some (B, N') → base ≤ B → r = r'
  fresh : ∀ r, H.next ≤ r → H.t.get r = none
  vle : ∀ r v B N, m r v = some (B, N) → v ≤ N
  frz : ∀ i B cells, m.froz i = some (B, cells) → ∃ cs ty fr, w.heap[B]? = some (.cells cs ty fr) ∧ cells.length ≤ cs.size ∧ VRs m.still cells (cs.toList.take cells.length)
  fsep : ∀ i B cells r v N b, m.froz i = some (B, cells) → m r v = some (B, N) → H.t.get r = some b → b.ro = true
  ffin : ∃ n, ∀ i, n ≤ i → m.froz i = none
  base_le : base ≤ w.heap.size
  low : H.next ≤ roots

/-- What a step leaves: the map has grown; what is new in it is new, or lies where its root lay; all else is as it was. -/
structure St (m : Mp) (w : World) (base : Nat) (m' : Mp) (w' : World) : Prop where
  sub : Sub m m'
  ext : ∀ r v B N, m' r v = some (B, N) → (∃ v0 N0, m r v0 = some (B, N0)) ∨ w.heap.size ≤ B
  fext : ∀ i B cells, m'.froz i = some (B, cells) → m.froz i = some (B, cells) ∨ base ≤ B
  size : w.heap.size ≤ w'.heap.size
  os : w'.os = w.os
  tape : w'.tape = w.tape
  output : w'.output = w.output
  same : ∀ B, B < w.heap.size → (∀ r v N, m r v = some (B, N) → B < base) → w'.heap[B]? = w.heap[B]?

theorem St.refl (m : Mp) (w : World) (base : Nat) : St m w base m w :=
  ⟨Sub.refl m, fun r v B N h => .inl ⟨v, N, h⟩, fun _ _ _ h => .inl h, Nat.le_refl _, rfl, rfl, rfl, fun _ _ _ => rfl⟩
theorem St.trans {m m' m'' : Mp} {w w' w'' : World} {base : Nat} (hb : base ≤ w.heap.size) (h : St m w base m' w') (k : St m' w' base m'' w'') : St m w base m'' w'' where
  sub := h.sub.trans k.sub
  ext := by
    intro r v B N e
    rcases k.ext r v B N e with ⟨v0, N0, e0⟩ | hB
    · exact h.ext r v0 B N0 e0
    · exact .inr (Nat.le_trans h.size hB)
  fext := by
    intro i B cells e
    rcases k.fext i B cells e with e0 | hB
    · exact h.fext i B cells e0
    · exact .inr hB
  size := Nat.le_trans h.size k.size
  os := k.os.trans h.os
  tape := k.tape.trans h.tape
  output := k.output.trans h.output
  same := by
    intro B hB hm
    rw [k.same B (Nat.lt_of_lt_of_le hB h.size) ?_, h.same B hB hm]
    intro r v N e
    rcases h.ext r v B N e with ⟨v0, N0, e0⟩ | hB'
    · exact hm r v0 N0 e0
    · omega
theorem St.below {m m' : Mp} {w w' : World} {base : Nat} (hb : base ≤ w.heap.size) (h : St m w base m' w') : RowKit.Below base w w' :=
  ⟨h.os, h.tape, h.output, h.size, fun i hi => h.same i (by omega) (fun _ _ _ _ => hi)⟩
/-- Draws alone. -/
theorem St.drawn (m : Mp) (w : World) (base n : Nat) : St m w base m { w with drawn := n } :=
  ⟨Sub.refl m, fun r v B N h => .inl ⟨v, N, h⟩, fun _ _ _ h => .inl h, Nat.le_refl _, rfl, rfl, rfl, fun _ _ _ => rfl⟩
theorem RW.drawn {m : Mp} {H : Hp} {w : World} {base : Nat} (h : RW m H w base) (n : Nat) : RW m H { w with drawn := n } base :=
  ⟨h.blk, h.dom, h.sep, h.fresh, h.vle, h.frz, h.fsep, h.ffin, h.base_le, h.low⟩

/-- What is known of a frame's slots: the first that is said counts. -/
abbrev Env := List (Nat × AV)
noncomputable def look (env : Env) (t : Nat) : AV := List.rec (motive := fun _ => AV) .top (fun p _ ih => bif Nat.beq p.1 t then p.2 else ih) env
noncomputable def putE (env : Env) (d : Nat) (v : AV) : Env := (d, v) :: env
theorem look_nil (t : Nat) : look [] t = .top := rfl
theorem look_cons (p : Nat × AV) (r : Env) (t : Nat) : look (p :: r) t = if p.1 = t then p.2 else look r t := by
  show (bif Nat.beq p.1 t then p.2 else look r t) = _
  by_cases e : p.1 = t
  · rw [if_pos e, e]; simp
  · rw [if_neg e]
    have : Nat.beq p.1 t = false := by
      cases h : Nat.beq p.1 t with
      | false => rfl
      | true => exact absurd (Nat.eq_of_beq_eq_true h) e
    rw [this]; rfl
theorem look_put (u : Nat) (v : AV) (r : Env) (t : Nat) : look (putE r u v) t = if u = t then v else look r t := look_cons (u, v) r t
def FR (m : Mp) (env : Env) (tmps : Array Value) : Prop := ∀ t, look env t ≠ .top → ∃ c, tmps[t]? = some c ∧ VR m (look env t) c
theorem FR.mono {m m' : Mp} (h : Sub m m') {env : Env} {tmps : Array Value} (k : FR m env tmps) : FR m' env tmps := by
  intro t ht
  obtain ⟨c, h1, h2⟩ := k t ht
  exact ⟨c, h1, VR.mono h _ _ h2⟩
/-- What a slot's reading gives, whether it is known or not. -/
theorem FR.getD {m : Mp} {env : Env} {tmps : Array Value} (k : FR m env tmps) (t : Nat) : VR m (look env t) (tmps.getD t undef) := by
  by_cases ht : look env t = .top
  · rw [ht]; simp only [VR]
  · obtain ⟨c, h1, h2⟩ := k t ht
    have : tmps.getD t undef = c := by simp [Array.getD_eq_getD_getElem?, h1]
    rw [this]; exact h2
theorem FR.put {m : Mp} {env : Env} {tmps : Array Value} (k : FR m env tmps) (d : Nat) (v : AV) (c : Value) (hv : VR m v c) (hd : d < tmps.size ∨ v = .top) : FR m (putE env d v) (tmps.setIfInBounds d c) := by
  intro t ht
  simp only [look_put] at ht ⊢
  by_cases e : d = t
  · subst e
    simp only [if_true] at ht ⊢
    rcases hd with hd | rfl
    · exact ⟨c, by simp [hd], hv⟩
    · exact absurd rfl ht
  · rw [if_neg e] at ht ⊢
    obtain ⟨c', h1, h2⟩ := k t ht
    exact ⟨c', by rw [Array.getElem?_setIfInBounds_ne e]; exact h1, h2⟩
/-- Less may be known. -/
def Less (env env' : Env) : Prop := ∀ t, look env' t = .top ∨ look env' t = look env t
theorem FR.less {m : Mp} {env env' : Env} {tmps : Array Value} (k : FR m env tmps) (h : Less env env') : FR m env' tmps := by
  intro t ht
  rcases h t with e | e
  · exact absurd e ht
  · rw [e] at ht ⊢; exact k t ht
noncomputable def keepOnly (env : Env) : List Nat → Env
  | [] => []
  | k :: ks => putE (keepOnly env ks) k (look env k)
theorem look_keepOnly (env : Env) (t : Nat) : ∀ ks : List Nat, look (keepOnly env ks) t = if t ∈ ks then look env t else .top
  | [] => by simp [keepOnly, look_nil]
  | k :: ks => by
    simp only [keepOnly, look_put, look_keepOnly env t ks]
    by_cases e : k = t
    · subst e; simp
    · simp [e, Ne.symm e]
theorem less_keepOnly (ks : List Nat) (env : Env) : Less env (keepOnly env ks) := by
  intro t
  rw [look_keepOnly]
  split
  · exact .inr rfl
  · exact .inl rfl
end Go.Proofs.Ytfkefelgjbfkjaa.Am

/-! What making, writing and growing memory does, told and in Go's memory. -/
set_option linter.unusedVariables false
namespace Go.Proofs.Ytfkefelgjbfkjaa.Am
open Go

/-- The world with one block's content turned. -/
def wset (w : World) (B : Nat) (o : Obj) : World := { w with heap := w.heap.setIfInBounds B o }
def putA (cs : Array Value) : Nat → List Value → Array Value
  | _, [] => cs
  | i, v :: r => putA (cs.setIfInBounds i v) (i + 1) r
def putL (xs : List AV) : Nat → List AV → List AV
  | _, [] => xs
  | i, v :: r => putL (xs.set i v) (i + 1) r
theorem putA_size (cs : Array Value) : ∀ (vs : List Value) (i : Nat), (putA cs i vs).size = cs.size
  | [], _ => rfl
  | v :: r, i => by rw [putA, putA_size (cs.setIfInBounds i v) r (i + 1)]; simp
theorem putL_length (xs : List AV) : ∀ (vs : List AV) (i : Nat), (putL xs i vs).length = xs.length
  | [], _ => rfl
  | v :: r, i => by rw [putL, putL_length (xs.set i v) r (i + 1)]; simp
theorem putA_get_lo (cs : Array Value) : ∀ (vs : List Value) (i j : Nat), j < i → (putA cs i vs)[j]? = cs[j]?
  | [], _, _, _ => rfl
  | v :: r, i, j, h => by rw [putA, putA_get_lo (cs.setIfInBounds i v) r (i + 1) j (by omega), Array.getElem?_setIfInBounds_ne (by omega)]
theorem putA_get_in (cs : Array Value) : ∀ (vs : List Value) (i j : Nat) (v : Value), vs[j]? = some v → i + j < cs.size → (putA cs i vs)[i + j]? = some v
  | [], _, _, _, h, _ => by simp at h
  | u :: r, i, 0, v, h, hs => by
    simp at h
    subst h
    show (putA (cs.setIfInBounds i u) (i + 1) r)[i]? = some u
    rw [putA_get_lo _ r (i + 1) i (by omega)]
    have : i < cs.size := by omega
    simp [this]
  | u :: r, i, j + 1, v, h, hs => by
    simp at h
    rw [putA, show i + (j + 1) = i + 1 + j by omega]
    exact putA_get_in (cs.setIfInBounds i u) r (i + 1) j v h (by simp; omega)
theorem putA_take (cs : Array Value) (n : Nat) (vs : List Value) (i : Nat) (h : n ≤ i) : (putA cs i vs).toList.take n = cs.toList.take n := by
  apply List.ext_getElem?
  intro j
  rw [List.getElem?_take, List.getElem?_take]
  split
  · rw [Array.getElem?_toList, Array.getElem?_toList, putA_get_lo cs vs i j (by omega)]
  · rfl
theorem putA_take_put (cs : Array Value) (vs : List Value) (i : Nat) (h : i + vs.length ≤ cs.size) : (putA cs i vs).toList.take (i + vs.length) = cs.toList.take i ++ vs := by
  have h0 : (cs.toList.take i).length = i := by rw [List.length_take, Array.length_toList]; omega
  apply List.ext_getElem?
  intro j
  rw [List.getElem?_take]
  by_cases h1 : j < i
  · rw [if_pos (by omega), List.getElem?_append_left (by omega), List.getElem?_take, if_pos h1, Array.getElem?_toList, Array.getElem?_toList, putA_get_lo cs vs i j h1]
  · rw [List.getElem?_append_right (by omega), h0]
    by_cases h2 : j < i + vs.length
    · rw [if_pos h2, Array.getElem?_toList]
      have h3 : j - i < vs.length := by omega
      have := putA_get_in cs vs i (j - i) vs[j - i] (List.getElem?_eq_getElem h3) (by omega)
      rw [show i + (j - i) = j by omega] at this
      rw [this, List.getElem?_eq_getElem h3]
    · rw [if_neg h2, List.getElem?_eq_none (by omega)]
theorem setCell_wset (w : World) (B i : Nat) (cs : Array Value) (ty : TypeId) (fr : Nat × Nat) (v : Value) (h : w.heap[B]? = some (.cells cs ty fr)) :
    w.setCell ⟨B, i, none⟩ v = wset w B (.cells (cs.setIfInBounds i v) ty fr) := by
  obtain ⟨hB, hg⟩ := Array.getElem?_eq_some_iff.1 h
  unfold World.setCell wset
  congr 1
  apply Array.ext
  · simp
  · intro j h1 h2
    rw [Array.getElem_modify, Array.getElem_setIfInBounds]
    by_cases e : B = j
    · subst e
      rw [if_pos rfl, if_pos rfl, hg]
      simp
    · rw [if_neg e, if_neg e]
theorem wset_get (w : World) (B : Nat) (o : Obj) (h : B < w.heap.size) : (wset w B o).heap[B]? = some o := by
  simp [wset, h]
theorem wset_get_ne (w : World) (B C : Nat) (o : Obj) (h : B ≠ C) : (wset w B o).heap[C]? = w.heap[C]? := by
  simp [wset, Array.getElem?_setIfInBounds_ne h]
theorem wset_wset (w : World) (B : Nat) (o o' : Obj) : wset (wset w B o) B o' = wset w B o' := by
  unfold wset
  simp [Array.setIfInBounds_setIfInBounds]
theorem wset_size (w : World) (B : Nat) (o : Obj) : (wset w B o).heap.size = w.heap.size := by simp [wset]
theorem addr_add (B o i : Nat) : (⟨B, o, none⟩ : Addr).add i = ⟨B, o + i, none⟩ := by unfold Addr.add; split <;> simp_all
theorem cell_of (w : World) (B i : Nat) (cs : Array Value) (ty : TypeId) (fr : Nat × Nat) (h : w.heap[B]? = some (.cells cs ty fr)) : w.cell? ⟨B, i, none⟩ = cs[i]? := by
  simp [World.cell?, h]
theorem frozen_of (w : World) (B i N : Nat) (cs : Array Value) (ty : TypeId) (fr : Nat × Nat) (h : w.heap[B]? = some (.cells cs ty fr)) (hf : Free fr N) (hi : i < N) : w.frozen? ⟨B, i, none⟩ = false := by
  have := hf i hi
  simp only [World.frozen?, h]
  simp
  omega
theorem run_storeCells_wset (P : Program) (B o : Nat) (ty : TypeId) (fr : Nat × Nat) : ∀ (vs : List Value) (i : Nat) (cs : Array Value) (w : World), w.heap[B]? = some (.cells cs ty fr) → o + i + vs.length ≤ cs.size → Free fr cs.size → (∀ v ∈ vs, v.oneCell' = true) →
    (storeCells ⟨B, o, none⟩ vs i).run P w = .ok () (if vs = [] then w else wset w B (.cells (putA cs (o + i) vs) ty fr))
  | [], _, _, _, _, _, _, _ => rfl
  | v :: r, i, cs, w, h, hl, hf, h1 => by
    obtain ⟨hB, hg⟩ := Array.getElem?_eq_some_iff.1 h
    simp only [List.length_cons] at hl
    have hst : (store ((⟨B, o, none⟩ : Addr).add i) v).run P w = .ok () (wset w B (.cells (cs.setIfInBounds (o + i) v) ty fr)) := by
      rw [addr_add, run_store P w _ v _ (h1 v (by simp)), cell_of w B _ cs ty fr h, frozen_of w B _ cs.size cs ty fr h hf (by omega), setCell_wset w B _ cs ty fr v h]
      rw [Array.getElem?_eq_getElem (by omega)]
      simp
    have ih := run_storeCells_wset P B o ty fr r (i + 1) (cs.setIfInBounds (o + i) v) (wset w B (.cells (cs.setIfInBounds (o + i) v) ty fr)) (wset_get _ _ _ hB) (by simp; omega) (by simpa using hf) (fun x hx => h1 x (by simp [hx]))
    simp only [storeCells, Sem.run_bind, hst, Result.andThen_ok, ih, putA, wset_wset]
    rw [show o + (i + 1) = o + i + 1 by omega]
    by_cases hr : r = []
    · subst hr; simp [putA]
    · simp [hr]
theorem VRs.put {m : Mp} : ∀ {vs : List AV} {us : List Value} (i : Nat) {xs : List AV} {cs : Array Value} (v : Nat), VRs m xs (cs.toList.take v) → VRs m vs us → VRs m (putL xs i vs) ((putA cs i us).toList.take v)
  | [], us, i, xs, cs, v, h, k => by simp only [VRs] at k; subst k; exact h
  | x :: vs, us, i, xs, cs, v, h, k => by
    simp only [VRs] at k
    obtain ⟨u, us, rfl, k1, k2⟩ := k
    rw [putL, putA]
    refine VRs.put (i + 1) v ?_ k2
    rw [Array.toList_setIfInBounds, List.take_set]
    exact VRs.set i x u h k1

theorem RW.lt {m : Mp} {H : Hp} {w : World} {base : Nat} (h : RW m H w base) {r : Nat} {b : Blk} (hb : H.t.get r = some b) : r < H.next := by
  rcases Nat.lt_or_ge r H.next with h1 | h1
  · exact h1
  · rw [h.fresh r h1] at hb; cases hb
theorem fits {H : Hp} (h : H.next ≤ roots) {r : Nat} (hr : r < H.next) : r + 1 < 2 ^ depth := by
  unfold roots at h; unfold depth; omega

/-- What is frozen stays, where another block is turned. -/
theorem RW.frz_wset {m m' : Mp} {H : Hp} {w : World} {base : Nat} (h : RW m H w base) {r v B N : Nat} {b : Blk} (hb : H.t.get r = some b) (hro : b.ro = false) (hm : m r v = some (B, N)) (o : Obj) (hf : m'.froz = m.froz) :
    ∀ i B' cells, m'.froz i = some (B', cells) → ∃ cs ty fr, (wset w B o).heap[B']? = some (.cells cs ty fr) ∧ cells.length ≤ cs.size ∧ VRs m'.still cells (cs.toList.take cells.length) := by
  intro i B' cells hi
  have hst : m'.still = m.still := by unfold Mp.still; rw [hf]
  rw [hf] at hi
  rw [hst]
  obtain ⟨cs, ty, fr, h1, h2, h3⟩ := h.frz _ _ _ hi
  refine ⟨cs, ty, fr, ?_, h2, h3⟩
  rw [wset_get_ne _ _ _ _ ?_]
  · exact h1
  · rintro rfl
    have := h.fsep _ _ _ _ _ _ _ hi hm hb
    rw [hro] at this; cases this
theorem RW.froz_lt {m : Mp} {H : Hp} {w : World} {base : Nat} (h : RW m H w base) {i B : Nat} {cells : List AV} (hi : m.froz i = some (B, cells)) : B < w.heap.size := by
  obtain ⟨cs, ty, fr, h1, _⟩ := h.frz _ _ _ hi
  exact (Array.getElem?_eq_some_iff.1 h1).1
theorem RW.frz_old {m m' : Mp} {H : Hp} {w w' : World} {base : Nat} (h : RW m H w base) (hold : ∀ B, B < w.heap.size → w'.heap[B]? = w.heap[B]?) (hf : m'.froz = m.froz) :
    ∀ i B' cells, m'.froz i = some (B', cells) → ∃ cs ty fr, w'.heap[B']? = some (.cells cs ty fr) ∧ cells.length ≤ cs.size ∧ VRs m'.still cells (cs.toList.take cells.length) := by
  intro i B' cells hi
  have hst : m'.still = m.still := by unfold Mp.still; rw [hf]
  rw [hf] at hi
  rw [hst]
  have hlt := h.froz_lt hi
  obtain ⟨cs, ty, fr, h1, h2, h3⟩ := h.frz _ _ _ hi
  exact ⟨cs, ty, fr, by rw [hold _ hlt]; exact h1, h2, h3⟩

/-- One block's content is turned, by its newest version. -/
theorem RW.upd {m : Mp} {H : Hp} {w : World} {base : Nat} (h : RW m H w base) {r : Nat} {b : Blk} {B N : Nat} (hb : H.t.get r = some b) (hro : b.ro = false)
    (hm : m r b.cells.length = some (B, N)) (hmin : b.minv ≤ b.cells.length) {cs cs' : Array Value} {ty : TypeId} {fr : Nat × Nat} (hc : w.heap[B]? = some (.cells cs ty fr)) (hsz : cs'.size = cs.size)
    {cells' : List AV} (hl : cells'.length = b.cells.length) (hrel : VRs m cells' (cs'.toList.take b.cells.length)) :
    RW m ⟨H.next, Tr.set depth H.t r ⟨cells', b.cells.length, false⟩⟩ (wset w B (.cells cs' ty fr)) base ∧ St m w base m (wset w B (.cells cs' ty fr)) := by
  have hr := h.lt hb
  obtain ⟨b0, hb0, hv0, hBs, hbase⟩ := h.dom _ _ _ _ hm
  obtain rfl : b0 = b := by rw [hb] at hb0; cases hb0; rfl
  obtain ⟨cs1, ty1, fr1, hc1, hs1, hN1, hf1, hr1⟩ := h.blk _ _ _ _ _ hb hm hmin (Nat.le_refl _)
  obtain ⟨rfl, rfl, rfl⟩ : cs1 = cs ∧ ty1 = ty ∧ fr1 = fr := by rw [hc] at hc1; cases hc1; exact ⟨rfl, rfl, rfl⟩
  have eqr := Tr.get_set_eq depth H.t r ⟨cells', b0.cells.length, false⟩ (fits h.low hr)
  have ner := fun r' (hne : r ≠ r') => Tr.get_set_ne depth H.t r r' ⟨cells', b0.cells.length, false⟩ hne
  refine ⟨⟨?_, ?_, h.sep, ?_, h.vle, h.frz_wset hb hro hm _ rfl, ?_, h.ffin, by rw [wset_size]; exact h.base_le, h.low⟩, ⟨Sub.refl m, fun r v B N e => .inl ⟨v, N, e⟩, fun _ _ _ e => .inl e, by rw [wset_size]; exact Nat.le_refl _, rfl, rfl, rfl, ?_⟩⟩
  · intro r' b' v' B' N' hb' hm' hmin' hv'
    by_cases e : r = r'
    · subst e
      rw [eqr] at hb'
      cases hb'
      simp only at hmin' hv'
      obtain rfl : v' = b0.cells.length := by omega
      rw [hm] at hm'
      cases hm'
      refine ⟨cs', ty1, fr1, wset_get _ _ _ hBs, by rw [hsz]; exact hs1, hN1, fun _ => hf1 hro, ?_⟩
      rw [List.take_of_length_le (show cells'.length ≤ b0.cells.length by omega)]
      exact hrel
    · rw [ner r' e] at hb'
      obtain ⟨cs2, ty2, fr2, h2, h3⟩ := h.blk _ _ _ _ _ hb' hm' hmin' hv'
      refine ⟨cs2, ty2, fr2, ?_, h3⟩
      rw [wset_get_ne _ _ _ _ ?_]
      · exact h2
      · rintro rfl
        exact e (h.sep _ _ _ _ _ _ _ hm hm' (hbase hro))
  · intro r' v' B' N' hm'
    obtain ⟨b', h1, h2, h3, h4⟩ := h.dom _ _ _ _ hm'
    by_cases e : r = r'
    · subst e
      rw [hb] at h1
      cases h1
      exact ⟨_, eqr, by show v' ≤ cells'.length; omega, by rw [wset_size]; exact h3, fun _ => h4 hro⟩
    · exact ⟨b', by rw [ner r' e]; exact h1, h2, by rw [wset_size]; exact h3, h4⟩
  · intro r' hr'
    have hr' : H.next ≤ r' := hr'
    rw [ner r' (by omega)]
    exact h.fresh r' hr'
  · intro i B' cells r' v' N' b' hi hm' hb'
    by_cases e : r = r'
    · subst e
      have := h.fsep _ _ _ _ _ _ _ hi hm' hb
      rw [hro] at this; cases this
    · rw [ner r' e] at hb'
      exact h.fsep _ _ _ _ _ _ _ hi hm' hb'
  · intro B' hB' hn
    refine wset_get_ne _ _ _ _ ?_
    rintro rfl
    have := hn _ _ _ hm
    have := hbase hro
    omega

def Mp.add (m : Mp) (r v : Nat) (p : Nat × Nat) : Mp := ⟨fun r' v' => if r' = r ∧ v' = v then some p else m r' v', m.froz⟩
theorem Mp.add_same (m : Mp) (r v : Nat) (p : Nat × Nat) : m.add r v p r v = some p := by simp [Mp.add]
theorem Mp.add_sub {m : Mp} {r v : Nat} {p : Nat × Nat} (h : m r v = none) : Sub m (m.add r v p) := by
  refine ⟨?_, fun _ _ h => h⟩
  intro r' v' q hq
  show (if r' = r ∧ v' = v then some p else m r' v') = some q
  rw [if_neg ?_]
  · exact hq
  · rintro ⟨rfl, rfl⟩; rw [h] at hq; cases hq
theorem Mp.add_cases {m : Mp} {r v : Nat} {p : Nat × Nat} {r' v' : Nat} {q : Nat × Nat} (h : m.add r v p r' v' = some q) : (r' = r ∧ v' = v ∧ q = p) ∨ m r' v' = some q := by
  have h : (if r' = r ∧ v' = v then some p else m r' v') = some q := h
  by_cases e : r' = r ∧ v' = v
  · rw [if_pos e] at h; cases h; exact .inl ⟨e.1, e.2, rfl⟩
  · rw [if_neg e] at h; exact .inr h

/-- The world with a block more. -/
def wnew (w : World) (o : Obj) : World := { w with heap := w.heap.push o }
theorem wnew_size (w : World) (o : Obj) : (wnew w o).heap.size = w.heap.size + 1 := by simp [wnew]
theorem wnew_get (w : World) (o : Obj) : (wnew w o).heap[w.heap.size]? = some o := by
  show (w.heap.push o)[w.heap.size]? = some o
  simp
theorem wnew_old (w : World) (o : Obj) (i : Nat) (h : i < w.heap.size) : (wnew w o).heap[i]? = w.heap[i]? := by
  show (w.heap.push o)[i]? = w.heap[i]?
  rw [Array.getElem?_push, if_neg (Nat.ne_of_lt h)]

/-- Memory is made: a root more. -/
theorem RW.alloc {m : Mp} {H : Hp} {w : World} {base : Nat} (h : RW m H w base) (hlow : H.next < roots) (cells : List AV) (cs : Array Value) (ty : TypeId) (fr : Nat × Nat) (hf : Free fr cs.size) (hl : cells.length ≤ cs.size)
    (hrel : VRs m cells (cs.toList.take cells.length)) :
    RW (m.add H.next cells.length (w.heap.size, cs.size)) ⟨H.next + 1, Tr.set depth H.t H.next ⟨cells, 0, false⟩⟩ (wnew w (.cells cs ty fr)) base ∧
    St m w base (m.add H.next cells.length (w.heap.size, cs.size)) (wnew w (.cells cs ty fr)) := by
  have eqr := Tr.get_set_eq depth H.t H.next ⟨cells, 0, false⟩ (by unfold roots at hlow; unfold depth; omega)
  have ner := fun r' (hne : H.next ≠ r') => Tr.get_set_ne depth H.t H.next r' ⟨cells, 0, false⟩ hne
  have hnone : ∀ v, m H.next v = none := by
    intro v
    cases e : m H.next v with
    | none => rfl
    | some p =>
      obtain ⟨b, hb, _⟩ := h.dom H.next v p.1 p.2 e
      rw [h.fresh _ (Nat.le_refl _)] at hb; cases hb
  have hsub : Sub m (m.add H.next cells.length (w.heap.size, cs.size)) := Mp.add_sub (hnone _)
  have hnext : ∀ r' v' q, m r' v' = some q → H.next ≠ r' := by
    rintro r' v' q hq rfl; rw [hnone] at hq; cases hq
  refine ⟨⟨?_, ?_, ?_, ?_, (fun r' v' B' N' hm' => by rcases Mp.add_cases hm' with ⟨_, rfl, e⟩ | hm''; (cases e; assumption); exact h.vle _ _ _ _ hm''), h.frz_old (fun B hB => wnew_old _ _ _ hB) rfl, ?_, h.ffin, by rw [wnew_size]; exact Nat.le_succ_of_le h.base_le, by simp only; omega⟩, ⟨hsub, ?_, fun _ _ _ e => .inl e, by rw [wnew_size]; omega, rfl, rfl, rfl, fun B hB _ => wnew_old _ _ _ hB⟩⟩
  · intro r' b' v' B' N' hb' hm' hmin' hv'
    rcases Mp.add_cases hm' with ⟨rfl, rfl, e⟩ | hm''
    · cases e
      rw [eqr] at hb'
      cases hb'
      refine ⟨cs, ty, fr, wnew_get _ _, rfl, hl, fun _ => hf, ?_⟩
      rw [List.take_of_length_le (Nat.le_refl _)]
      exact VRs.mono hsub _ _ hrel
    · have hne := hnext _ _ _ hm''
      rw [ner r' hne] at hb'
      obtain ⟨cs2, ty2, fr2, h2, h3, h4, h5, h6⟩ := h.blk _ _ _ _ _ hb' hm'' hmin' hv'
      obtain ⟨_, _, _, hlt, _⟩ := h.dom _ _ _ _ hm''
      exact ⟨cs2, ty2, fr2, by rw [wnew_old _ _ _ hlt]; exact h2, h3, h4, h5, VRs.mono hsub _ _ h6⟩
  · intro r' v' B' N' hm'
    rcases Mp.add_cases hm' with ⟨rfl, rfl, e⟩ | hm''
    · cases e
      exact ⟨_, eqr, Nat.le_refl _, by rw [wnew_size]; omega, fun _ => h.base_le⟩
    · obtain ⟨b', h1, h2, h3, h4⟩ := h.dom _ _ _ _ hm''
      exact ⟨b', by rw [ner r' (hnext _ _ _ hm'')]; exact h1, h2, by rw [wnew_size]; omega, h4⟩
  · intro r1 v1 B1 N1 r2 v2 N2 h1 h2 hB
    rcases Mp.add_cases h1 with ⟨rfl, rfl, e1⟩ | h1'
    · cases e1
      rcases Mp.add_cases h2 with ⟨rfl, rfl, e2⟩ | h2'
      · rfl
      · obtain ⟨_, _, _, hlt, _⟩ := h.dom _ _ _ _ h2'
        omega
    · rcases Mp.add_cases h2 with ⟨rfl, rfl, e2⟩ | h2'
      · cases e2
        obtain ⟨_, _, _, hlt, _⟩ := h.dom _ _ _ _ h1'
        omega
      · exact h.sep _ _ _ _ _ _ _ h1' h2' hB
  · intro r' hr'
    simp only at hr'
    rw [ner r' (by omega)]
    exact h.fresh r' (by omega)
  · intro i B' cells r' v' N' b' hi hm' hb'
    have hlt := h.froz_lt hi
    rcases Mp.add_cases hm' with ⟨rfl, rfl, e⟩ | hm''
    · cases e; omega
    · rw [ner r' (hnext _ _ _ hm'')] at hb'
      exact h.fsep _ _ _ _ _ _ _ hi hm'' hb'
  · intro r' v' B' N' hm'
    rcases Mp.add_cases hm' with ⟨rfl, rfl, e⟩ | hm''
    · cases e; exact .inr (Nat.le_refl _)
    · exact .inl ⟨v', N', hm''⟩

/-- The newest version grows in its block. -/
theorem RW.extend {m : Mp} {H : Hp} {w : World} {base : Nat} (h : RW m H w base) {r : Nat} {b : Blk} {B N : Nat} (hb : H.t.get r = some b) (hro : b.ro = false)
    (hm : m r b.cells.length = some (B, N)) (hmin : b.minv ≤ b.cells.length) {cs cs' : Array Value} {ty : TypeId} {fr : Nat × Nat} (hc : w.heap[B]? = some (.cells cs ty fr)) (hsz : cs'.size = cs.size)
    (new : List AV) (hk : 0 < new.length) (hN : b.cells.length + new.length ≤ N) (hold : cs'.toList.take b.cells.length = cs.toList.take b.cells.length)
    (hrel : VRs m (b.cells ++ new) (cs'.toList.take (b.cells.length + new.length))) :
    RW (m.add r (b.cells.length + new.length) (B, N)) ⟨H.next, Tr.set depth H.t r ⟨b.cells ++ new, b.minv, false⟩⟩ (wset w B (.cells cs' ty fr)) base ∧
    St m w base (m.add r (b.cells.length + new.length) (B, N)) (wset w B (.cells cs' ty fr)) := by
  have hr := h.lt hb
  obtain ⟨b0, hb0, hv0, hBs, hbase⟩ := h.dom _ _ _ _ hm
  obtain rfl : b0 = b := by rw [hb] at hb0; cases hb0; rfl
  obtain ⟨cs1, ty1, fr1, hc1, hs1, hN1, hf1, hr1⟩ := h.blk _ _ _ _ _ hb hm hmin (Nat.le_refl _)
  obtain ⟨rfl, rfl, rfl⟩ : cs1 = cs ∧ ty1 = ty ∧ fr1 = fr := by rw [hc] at hc1; cases hc1; exact ⟨rfl, rfl, rfl⟩
  have eqr := Tr.get_set_eq depth H.t r ⟨b0.cells ++ new, b0.minv, false⟩ (fits h.low hr)
  have ner := fun r' (hne : r ≠ r') => Tr.get_set_ne depth H.t r r' ⟨b0.cells ++ new, b0.minv, false⟩ hne
  have hnone : m r (b0.cells.length + new.length) = none := by
    cases e : m r (b0.cells.length + new.length) with
    | none => rfl
    | some p =>
      obtain ⟨b, hb', hv', _⟩ := h.dom _ _ p.1 p.2 e
      rw [hb] at hb'; cases hb'
      omega
  have hsub : Sub m (m.add r (b0.cells.length + new.length) (B, N)) := Mp.add_sub hnone
  have htake : ∀ v', v' ≤ b0.cells.length → cs'.toList.take v' = cs1.toList.take v' := by
    intro v' hv'
    have := congrArg (List.take v') hold
    rwa [List.take_take, List.take_take, Nat.min_eq_left hv'] at this
  refine ⟨⟨?_, ?_, ?_, ?_, (fun r' v' B' N' hm' => by rcases Mp.add_cases hm' with ⟨_, rfl, e⟩ | hm''; (cases e; assumption); exact h.vle _ _ _ _ hm''), h.frz_wset hb hro hm _ rfl, ?_, h.ffin, by rw [wset_size]; exact h.base_le, h.low⟩, ⟨hsub, ?_, fun _ _ _ e => .inl e, by rw [wset_size]; exact Nat.le_refl _, rfl, rfl, rfl, ?_⟩⟩
  · intro r' b' v' B' N' hb' hm' hmin' hv'
    rcases Mp.add_cases hm' with ⟨rfl, rfl, e⟩ | hm''
    · cases e
      rw [eqr] at hb'
      cases hb'
      refine ⟨cs', ty1, fr1, wset_get _ _ _ hBs, by rw [hsz]; exact hs1, hN, fun _ => hf1 hro, ?_⟩
      rw [List.take_of_length_le (by simp)]
      exact VRs.mono hsub _ _ hrel
    · by_cases e : r = r'
      · subst e
        rw [eqr] at hb'
        cases hb'
        obtain ⟨b2, hb2, hv2, _⟩ := h.dom _ _ _ _ hm''
        rw [hb] at hb2
        cases hb2
        simp only at hmin'
        obtain ⟨cs2, ty2, fr2, h2, h3, h4, h5, h6⟩ := h.blk _ _ _ _ _ hb hm'' hmin' hv2
        have hpre : (b0.cells ++ new).take v' = b0.cells.take v' := by rw [List.take_append_of_le_length hv2]
        by_cases eB : B = B'
        · subst eB
          rw [hc] at h2
          cases h2
          refine ⟨cs', ty1, fr1, wset_get _ _ _ hBs, by rw [hsz]; exact h3, h4, fun _ => h5 hro, ?_⟩
          simp only
          rw [hpre, htake v' hv2]
          exact VRs.mono hsub _ _ h6
        · refine ⟨cs2, ty2, fr2, by rw [wset_get_ne _ _ _ _ eB]; exact h2, h3, h4, fun _ => h5 hro, ?_⟩
          simp only
          rw [hpre]
          exact VRs.mono hsub _ _ h6
      · rw [ner r' e] at hb'
        obtain ⟨cs2, ty2, fr2, h2, h3, h4, h5, h6⟩ := h.blk _ _ _ _ _ hb' hm'' hmin' hv'
        refine ⟨cs2, ty2, fr2, ?_, h3, h4, h5, VRs.mono hsub _ _ h6⟩
        rw [wset_get_ne _ _ _ _ ?_]
        · exact h2
        · rintro rfl
          exact e (h.sep _ _ _ _ _ _ _ hm hm'' (hbase hro))
  · intro r' v' B' N' hm'
    rcases Mp.add_cases hm' with ⟨rfl, rfl, e⟩ | hm''
    · cases e
      exact ⟨_, eqr, by simp, by rw [wset_size]; exact hBs, fun _ => hbase hro⟩
    · obtain ⟨b', h1, h2, h3, h4⟩ := h.dom _ _ _ _ hm''
      by_cases e : r = r'
      · subst e
        rw [hb] at h1
        cases h1
        exact ⟨_, eqr, by simp; omega, by rw [wset_size]; exact h3, fun _ => h4 hro⟩
      · exact ⟨b', by rw [ner r' e]; exact h1, h2, by rw [wset_size]; exact h3, h4⟩
  · intro r1 v1 B1 N1 r2 v2 N2 h1 h2 hB
    rcases Mp.add_cases h1 with ⟨rfl, rfl, e1⟩ | h1'
    · cases e1
      rcases Mp.add_cases h2 with ⟨rfl, rfl, e2⟩ | h2'
      · rfl
      · exact h.sep _ _ _ _ _ _ _ hm h2' hB
    · rcases Mp.add_cases h2 with ⟨rfl, rfl, e2⟩ | h2'
      · cases e2
        exact h.sep _ _ _ _ _ _ _ h1' hm hB
      · exact h.sep _ _ _ _ _ _ _ h1' h2' hB
  · intro r' hr'
    have hr' : H.next ≤ r' := hr'
    rw [ner r' (by omega)]
    exact h.fresh r' hr'
  · intro i B' cells r' v' N' b' hi hm' hb'
    by_cases e : r = r'
    · subst e
      rcases Mp.add_cases hm' with ⟨_, _, e1⟩ | hm''
      · cases e1
        have hbad := h.fsep _ _ _ _ _ _ _ hi hm hb
        rw [hro] at hbad; cases hbad
      · have hbad := h.fsep _ _ _ _ _ _ _ hi hm'' hb
        rw [hro] at hbad; cases hbad
    · rw [ner r' e] at hb'
      rcases Mp.add_cases hm' with ⟨e1, _, _⟩ | hm''
      · exact absurd e1.symm e
      · exact h.fsep _ _ _ _ _ _ _ hi hm'' hb'
  · intro r' v' B' N' hm'
    rcases Mp.add_cases hm' with ⟨rfl, rfl, e⟩ | hm''
    · cases e; exact .inl ⟨_, _, hm⟩
    · exact .inl ⟨v', N', hm''⟩
  · intro B' hB' hn
    refine wset_get_ne _ _ _ _ ?_
    rintro rfl
    have := hn _ _ _ hm
    have := hbase hro
    omega

/-- The newest version grows into a new block. -/
theorem RW.regrow {m : Mp} {H : Hp} {w : World} {base : Nat} (h : RW m H w base) {r : Nat} {b : Blk} (hb : H.t.get r = some b) (hro : b.ro = false)
    (new : List AV) (hk : 0 < new.length) (cs' : Array Value) (ty : TypeId) (hl : b.cells.length + new.length ≤ cs'.size)
    (hrel : VRs m (b.cells ++ new) (cs'.toList.take (b.cells.length + new.length))) :
    RW (m.add r (b.cells.length + new.length) (w.heap.size, cs'.size)) ⟨H.next, Tr.set depth H.t r ⟨b.cells ++ new, b.minv, false⟩⟩ (wnew w (.cells cs' ty (0, 0))) base ∧
    St m w base (m.add r (b.cells.length + new.length) (w.heap.size, cs'.size)) (wnew w (.cells cs' ty (0, 0))) := by
  have hr := h.lt hb
  have eqr := Tr.get_set_eq depth H.t r ⟨b.cells ++ new, b.minv, false⟩ (fits h.low hr)
  have ner := fun r' (hne : r ≠ r') => Tr.get_set_ne depth H.t r r' ⟨b.cells ++ new, b.minv, false⟩ hne
  have hnone : m r (b.cells.length + new.length) = none := by
    cases e : m r (b.cells.length + new.length) with
    | none => rfl
    | some p =>
      obtain ⟨b1, hb', hv', _⟩ := h.dom _ _ p.1 p.2 e
      rw [hb] at hb'; cases hb'
      omega
  have hsub : Sub m (m.add r (b.cells.length + new.length) (w.heap.size, cs'.size)) := Mp.add_sub hnone
  refine ⟨⟨?_, ?_, ?_, ?_, (fun r' v' B' N' hm' => by rcases Mp.add_cases hm' with ⟨_, rfl, e⟩ | hm''; (cases e; assumption); exact h.vle _ _ _ _ hm''), h.frz_old (fun B hB => wnew_old _ _ _ hB) rfl, ?_, h.ffin, by rw [wnew_size]; exact Nat.le_succ_of_le h.base_le, h.low⟩, ⟨hsub, ?_, fun _ _ _ e => .inl e, by rw [wnew_size]; omega, rfl, rfl, rfl, fun B hB _ => wnew_old _ _ _ hB⟩⟩
  · intro r' b' v' B' N' hb' hm' hmin' hv'
    rcases Mp.add_cases hm' with ⟨rfl, rfl, e⟩ | hm''
    · cases e
      rw [eqr] at hb'
      cases hb'
      refine ⟨cs', ty, (0, 0), wnew_get _ _, rfl, hl, fun _ i _ => by omega, ?_⟩
      rw [List.take_of_length_le (by simp)]
      exact VRs.mono hsub _ _ hrel
    · obtain ⟨b2, hb2, hv2, hlt, _⟩ := h.dom _ _ _ _ hm''
      by_cases e : r = r'
      · subst e
        rw [eqr] at hb'
        cases hb'
        rw [hb] at hb2
        cases hb2
        simp only at hmin'
        obtain ⟨cs2, ty2, fr2, h2, h3, h4, h5, h6⟩ := h.blk _ _ _ _ _ hb hm'' hmin' hv2
        refine ⟨cs2, ty2, fr2, by rw [wnew_old _ _ _ hlt]; exact h2, h3, h4, fun _ => h5 hro, ?_⟩
        simp only
        rw [List.take_append_of_le_length hv2]
        exact VRs.mono hsub _ _ h6
      · rw [ner r' e] at hb'
        obtain ⟨cs2, ty2, fr2, h2, h3, h4, h5, h6⟩ := h.blk _ _ _ _ _ hb' hm'' hmin' hv'
        exact ⟨cs2, ty2, fr2, by rw [wnew_old _ _ _ hlt]; exact h2, h3, h4, h5, VRs.mono hsub _ _ h6⟩
  · intro r' v' B' N' hm'
    rcases Mp.add_cases hm' with ⟨rfl, rfl, e⟩ | hm''
    · cases e
      exact ⟨_, eqr, by simp, by rw [wnew_size]; omega, fun _ => h.base_le⟩
    · obtain ⟨b', h1, h2, h3, h4⟩ := h.dom _ _ _ _ hm''
      by_cases e : r = r'
      · subst e
        rw [hb] at h1
        cases h1
        exact ⟨_, eqr, by simp; omega, by rw [wnew_size]; omega, fun _ => h4 hro⟩
      · exact ⟨b', by rw [ner r' e]; exact h1, h2, by rw [wnew_size]; omega, h4⟩
  · intro r1 v1 B1 N1 r2 v2 N2 h1 h2 hB
    rcases Mp.add_cases h1 with ⟨rfl, rfl, e1⟩ | h1'
    · cases e1
      rcases Mp.add_cases h2 with ⟨rfl, rfl, e2⟩ | h2'
      · rfl
      · obtain ⟨_, _, _, hlt, _⟩ := h.dom _ _ _ _ h2'
        omega
    · rcases Mp.add_cases h2 with ⟨rfl, rfl, e2⟩ | h2'
      · cases e2
        obtain ⟨_, _, _, hlt, _⟩ := h.dom _ _ _ _ h1'
        omega
      · exact h.sep _ _ _ _ _ _ _ h1' h2' hB
  · intro r' hr'
    have hr' : H.next ≤ r' := hr'
    rw [ner r' (by omega)]
    exact h.fresh r' hr'
  · intro i B' cells r' v' N' b' hi hm' hb'
    have hlt := h.froz_lt hi
    by_cases e : r = r'
    · subst e
      rcases Mp.add_cases hm' with ⟨_, _, e1⟩ | hm''
      · cases e1; omega
      · have hbad := h.fsep _ _ _ _ _ _ _ hi hm'' hb
        rw [hro] at hbad; cases hbad
    · rw [ner r' e] at hb'
      rcases Mp.add_cases hm' with ⟨e1, _, _⟩ | hm''
      · exact absurd e1.symm e
      · exact h.fsep _ _ _ _ _ _ _ hi hm'' hb'
  · intro r' v' B' N' hm'
    rcases Mp.add_cases hm' with ⟨rfl, rfl, e⟩ | hm''
    · cases e; exact .inr (Nat.le_refl _)
    · exact .inl ⟨v', N', hm''⟩
/-- A root more that lies nowhere: for a slice that is none as yet. -/
theorem RW.ghost {m : Mp} {H : Hp} {w : World} {base : Nat} (h : RW m H w base) (hlow : H.next < roots) : RW m ⟨H.next + 1, Tr.set depth H.t H.next ⟨[], 0, false⟩⟩ w base := by
  have ner := fun r' (hne : H.next ≠ r') => Tr.get_set_ne depth H.t H.next r' ⟨[], 0, false⟩ hne
  have hnext : ∀ r' v' q, m r' v' = some q → H.next ≠ r' := by
    rintro r' v' q hq rfl
    obtain ⟨b, hb, _⟩ := h.dom _ v' q.1 q.2 hq
    rw [h.fresh _ (Nat.le_refl _)] at hb; cases hb
  refine ⟨?_, ?_, h.sep, ?_, h.vle, h.frz, ?_, h.ffin, h.base_le, by simp only; omega⟩
  · intro r' b' v' B' N' hb' hm' hmin' hv'
    rw [ner r' (hnext _ _ _ hm')] at hb'
    exact h.blk _ _ _ _ _ hb' hm' hmin' hv'
  · intro r' v' B' N' hm'
    obtain ⟨b', h1, h2⟩ := h.dom _ _ _ _ hm'
    exact ⟨b', by rw [ner r' (hnext _ _ _ hm')]; exact h1, h2⟩
  · intro r' hr'
    have hr' : H.next + 1 ≤ r' := hr'
    rw [ner r' (by omega)]
    exact h.fresh r' (by omega)
  · intro i B' cells r' v' N' b' hi hm' hb'
    rw [ner r' (hnext _ _ _ hm')] at hb'
    exact h.fsep _ _ _ _ _ _ _ hi hm' hb'
end Go.Proofs.Ytfkefelgjbfkjaa.Am

/-! The abstract machine's operations: definitions. -/
set_option linter.unusedVariables false
namespace Go.Proofs.Ytfkefelgjbfkjaa.Am
open Go

inductive Tk where
  | bool | int (k : IntKind) | string | struct | array | slice | pointer | iface | other
  deriving DecidableEq
/-- What is known of a type. -/
structure Ti where
  size : Nat
  bytes : Nat
  zero : Option (List AV)
  kind : Tk
  fields : List (Nat × Nat)
  elem : Nat
  len : Nat
  flat : Option (List Tk)

def ofVal : Value → AV
  | .int k n => .int k n
  | .bool b => .bool b
  | .string s => .str (s.data.toList.map (·.toNat))
  | .pointer none => .nilp
  | .slice none 0 0 => .nils
  | .nilFunc => .nilf
  | .nilIface => .nili
  | _ => .top
theorem ofVal_ok (m : Mp) (v : Value) : VR m (ofVal v) v := by
  unfold ofVal
  split <;> simp [VR]
def Tk.of : TypeDesc → Tk
  | .bool => .bool
  | .int k => .int k
  | .string => .string
  | .struct _ => .struct
  | .array _ _ => .array
  | .slice _ => .slice
  | .pointer _ => .pointer
  | .interface _ => .iface
  | _ => .other
def kindT (P : Program) (t : TypeId) : Tk := match P.underlying t with | some d => Tk.of d | none => .other
/-- Are all parts of one cell: then '==' goes cell by cell; the parts' kinds. -/
def flatOf (P : Program) (t : TypeId) : TypeDesc → Option (List Tk)
  | .struct fs => if !P.stoodInHeld t && !P.eqGuardType P.depth t && (fs.toList.map (·.offset) == List.range' 0 fs.toList.length) && fs.toList.all (fun f => f.name != "_") then some (fs.toList.map fun f => kindT P f.type) else none
  | .array n e => if !P.eqGuardType P.depth t && (P.info? e).isSome && P.cellsOf e == 1 then some (List.replicate n (kindT P e)) else none
  | _ => none
def mkTi (P : Program) (t : TypeId) : Option Ti :=
  match P.info? t, P.underlying t with
  | some i, some d => some {
      size := i.size, bytes := i.bytes, zero := i.zero.map fun z => z.cells.toList.map ofVal, kind := Tk.of d,
      fields := (match d with | .struct fs => fs.toList.map fun f => (f.offset, f.type) | _ => []),
      elem := (match d with | .array _ e => e | .slice e => e | .pointer e => e | _ => 0),
      len := (match d with | .array n _ => n | _ => 0),
      flat := flatOf P t d }
  | _, _ => none
def Tk.isAgg : Tk → Bool
  | .struct | .array => true
  | _ => false

/-- The table of types. -/
structure Cx where
  ti : Nat → Option Ti

def cellsOf : AV → List AV
  | .agg xs => xs
  | v => [v]
def AV.is : AV → Bool
  | .top => false
  | _ => true
def one1 : AV → Bool
  | .top | .agg _ | .tuple _ => false
  | _ => true

noncomputable def alloc1 (H : Hp) (cells : List AV) : Option (AV × Hp) :=
  if H.next < roots then some (.ptr H.next cells.length 0, ⟨H.next + 1, Tr.set depth H.t H.next ⟨cells, 0, false⟩⟩) else none
noncomputable def rd (H : Hp) (r v off n : Nat) : Option (List AV) :=
  match H.t.get r with
  | some b => bif Nat.ble b.minv v && Nat.ble (off + n) v then some ((b.cells.drop off).take n) else none
  | none => none
noncomputable def wr (H : Hp) (r v off : Nat) (vs : List AV) : Option Hp :=
  match H.t.get r with
  | some b => if b.ro = false ∧ v = b.cells.length ∧ b.minv ≤ v ∧ off + vs.length ≤ v ∧ vs.all one1 = true ∧ vs.isEmpty = false then some ⟨H.next, Tr.set depth H.t r ⟨putL b.cells off vs, v, false⟩⟩ else none
  | none => none
/-- A variable's value out of its cells. -/
def mkVal (agg : Bool) (cells : List AV) : Option AV :=
  if agg then some (.agg cells) else match cells with | [x] => some x | _ => none

def lo : IntKind → Int
  | .i8 => -128 | .i16 => -32768 | .i32 => -2147483648 | .i64 => -9223372036854775808 | _ => 0
def hi : IntKind → Int
  | .i8 => 127 | .i16 => 32767 | .i32 => 2147483647 | .i64 => 9223372036854775807 | .u8 => 255 | .u16 => 65535 | .u32 => 4294967295 | .u64 => 18446744073709551615
def fwrap (k : IntKind) (n : Int) : Int := if decide (lo k ≤ n) && decide (n ≤ hi k) then n else k.wrap n
def intBin (op : BinOp) (k : IntKind) (x y : Int) : Option AV :=
  match op with
  | .add => some (.int k (fwrap k (x + y)))
  | .sub => some (.int k (fwrap k (x - y)))
  | .mul => some (.int k (fwrap k (x * y)))
  | .quo => if y = 0 then none else some (.int k (fwrap k (x.tdiv y)))
  | .rem => if y = 0 then none else some (.int k (x.tmod y))
  | .and => some (.int k (fwrap k (BitVec.ofInt k.bits x &&& BitVec.ofInt k.bits y).toNat))
  | .or => some (.int k (fwrap k (BitVec.ofInt k.bits x ||| BitVec.ofInt k.bits y).toNat))
  | .xor => some (.int k (fwrap k (BitVec.ofInt k.bits x ^^^ BitVec.ofInt k.bits y).toNat))
  | .andNot => some (.int k (fwrap k (BitVec.ofInt k.bits x &&& ~~~ BitVec.ofInt k.bits y).toNat))
  | .eql => some (.bool (decide (x = y)))
  | .neq => some (.bool (!decide (x = y)))
  | .lss => some (.bool (decide (x < y)))
  | .leq => some (.bool (decide (x ≤ y)))
  | .gtr => some (.bool (decide (y < x)))
  | .geq => some (.bool (decide (y ≤ x)))
  | _ => none
def eqL : List Nat → List Nat → Bool
  | [], [] => true
  | a :: x, b :: y => Nat.beq a b && eqL x y
  | _, _ => false
def lessL : List Nat → List Nat → Bool
  | _, [] => false
  | [], _ :: _ => true
  | a :: x, b :: y => Nat.blt a b || (Nat.beq a b && lessL x y)
def strBin (op : BinOp) (x y : List Nat) : Option AV :=
  match op with
  | .add => if x.length + y.length < 2 ^ 40 then some (.str (x ++ y)) else none
  | .eql => some (.bool (eqL x y))
  | .neq => some (.bool (!eqL x y))
  | .lss => some (.bool (lessL x y))
  | .leq => some (.bool (lessL x y || eqL x y))
  | .gtr => some (.bool (!(lessL x y || eqL x y)))
  | .geq => some (.bool (!lessL x y))
  | _ => none
def scalEq : Tk → AV → AV → Option Bool
  | .int _, .int k x, .int k' y => if k = k' then some (decide (x = y)) else none
  | .bool, .bool a, .bool b => some (a == b)
  | .string, .str a, .str b => some (eqL a b)
  | _, _, _ => none
def aggEq : List Tk → List AV → List AV → Option Bool
  | [], [], [] => some true
  | k :: ks, x :: xs, y :: ys => match scalEq k x y, aggEq ks xs ys with | some a, some b => some (a && b) | _, _ => none
  | _, _, _ => none
/-- '==' of two values of a type. -/
def eqK (i : Ti) (x y : AV) : Option Bool :=
  match i.kind, x, y with
  | .bool, .bool a, .bool b => some (a == b)
  | .pointer, .ptr .., .nilp => some false
  | .pointer, .nilp, .ptr .. => some false
  | .pointer, .nilp, .nilp => some true
  | .slice, .slice .., .nils => some false
  | .slice, .nils, .nils => some true
  | .iface, .iface .., .nili => some false
  | _, .agg xs, .agg ys => (match i.flat with | some ks => aggEq ks xs ys | none => none)
  | _, _, _ => none
def eqV (C : Cx) (t : Nat) (x y : AV) : Option Bool :=
  match C.ti t with
  | some i => eqK i x y
  | none => none
def binV (C : Cx) (op : BinOp) (t : Nat) (x y : AV) : Option AV :=
  match x, y with
  | .int k a, .int k' b =>
    match op with
    | .shl => if b < 0 then none else some (.int k (fwrap k (a * 2 ^ (min b.toNat k.bits))))
    | .shr => if b < 0 then none else some (.int k (a.fdiv (2 ^ (min b.toNat k.bits))))
    | _ => if k = k' then intBin op k a b else none
  | .str a, .str b => strBin op a b
  | .resid .u64 q r, .int .u64 b => match op with
    | .rem => if b = (q : Int) ∧ 0 < q then some (.int .u64 r) else none
    | _ => none
  | x, y => match op with
    | .eql => (eqV C t x y).map .bool
    | .neq => (eqV C t x y).map fun b => .bool (!b)
    | _ => none
def unV (op : UnOp) (x : AV) : Option AV :=
  match op, x with
  | .neg, .int k n => some (.int k (fwrap k (0 - n)))
  | .xor, .int k n => some (.int k (fwrap k (BitVec.ofInt k.bits (if k.signed then -1 else k.max) ^^^ BitVec.ofInt k.bits n).toNat))
  | .not, .bool b => some (.bool (!b))
  | _, _ => none

def bytesOf : List AV → Option (List Nat)
  | [] => some []
  | .int .u8 n :: r => match bytesOf r with | some l => if 0 ≤ n ∧ n ≤ 255 then some (n.toNat :: l) else none | none => none
  | _ :: _ => none
def utf (c : Int) : List Nat := (Utf8.encode c).data.toList.map (·.toNat)
noncomputable def convV (C : Cx) (H : Hp) (src dst : Nat) (x : AV) : Option (AV × Hp) :=
  match C.ti src, C.ti dst with
  | some a, some b =>
    match b.kind, x with
    | .int k, .int _ n => some (.int k (fwrap k n), H)
    | .int .u64, .resid .i64 q r => some (.resid .u64 q r, H)
    | .string, .int _ n => some (.str (utf n), H)
    | .string, .str s => some (.str s, H)
    | .string, .nils => match a.kind, C.ti a.elem with
      | .slice, some e => match e.kind with | .int .u8 => some (.str [], H) | _ => none
      | _, _ => none
    | .string, .slice r v off len sz => match a.kind, C.ti a.elem with
      | .slice, some e => match e.kind with
        | .int .u8 => if sz = 1 then match rd H r v off len with
            | some cs => match bytesOf cs with | some l => some (.str l, H) | none => none
            | none => none else none
        | _ => none
      | _, _ => none
    | .string, .own r len sz => match a.kind, C.ti a.elem with
      | .slice, some e => match e.kind with
        | .int .u8 => if sz = 1 then match rd H r (len * sz) 0 len with
            | some cs => match bytesOf cs with | some l => some (.str l, H) | none => none
            | none => none else none
        | _ => none
      | _, _ => none
    | _, _ => none
  | _, _ => none

/-- Parts put into a row of cells. -/
def fillL (place : Nat → Option (Nat × Nat)) (cells : List AV) : List (Nat × AV) → Option (List AV)
  | [] => some cells
  | (i, v) :: rest =>
    match place i with
    | none => none
    | some (off, size) => if v.is = true ∧ (cellsOf v).length = size ∧ off + size ≤ cells.length then fillL place (putL cells off (cellsOf v)) rest else none
def sizeOfT (C : Cx) (t : Nat) : Option Nat := (C.ti t).map (·.size)
def rep (zero : List AV) : Nat → List AV
  | 0 => []
  | n + 1 => zero ++ rep zero n
def bound (x : AV) (y : Nat) : Option Nat :=
  match x with
  | .int _ i => if 0 ≤ i ∧ i ≤ y then some i.toNat else none
  | _ => none
def boundO (x : Option AV) (y d : Nat) : Option Nat :=
  match x with
  | none => some d
  | some v => bound v y
def sliceV (C : Cx) (t : Nat) (x : AV) (low high : Option AV) : Option AV :=
  match C.ti t with
  | none => none
  | some i =>
    match i.kind, x with
    | .string, .str s => match boundO high s.length s.length with
      | some h => match boundO low h 0 with
        | some l => some (.str ((s.take h).drop l))
        | none => none
      | none => none
    | .slice, .slice r v off len sz => match boundO high len len with
      | some h => match boundO low h 0 with
        | some l => match sizeOfT C i.elem with
          | some z => if z = sz ∧ l < len ∧ 0 < sz then some (.slice r v (off + l * sz) (h - l) sz) else none
          | none => none
        | none => none
      | none => none
    | .slice, .vec n sz cells => match boundO high n n with
      | some h => match boundO low h 0 with
        | some l => match sizeOfT C i.elem with
          | some z => if z = sz then some (.vec (h - l) sz ((cells.drop (l * sz)).take ((h - l) * sz))) else none
          | none => none
        | none => none
      | none => none
    | .slice, .nils => match boundO high 0 0 with
      | some h => match boundO low h 0 with
        | some _ => match sizeOfT C i.elem with | some _ => some .nils | none => none
        | none => none
      | none => none
    | .array, .ptr r v off => match boundO high i.len i.len with
      | some h => match boundO low h 0 with
        | some l => match sizeOfT C i.elem with
          | some z => if off + i.len * z ≤ v ∧ l < i.len ∧ 0 < z then some (.slice r v (off + l * z) (h - l) z) else none
          | none => none
        | none => none
      | none => none
    | _, _ => none

noncomputable def appV (H : Hp) (s : AV) (sz bytes n : Nat) (new : List AV) : Option (AV × Hp) :=
  if new.length = n * sz ∧ 0 < sz ∧ new.all one1 = true then
    match s with
    | .nils => if n = 0 then some (.nils, H) else if n * bytes ≤ 2 ^ 40 ∧ n ≤ 2 ^ 40 ∧ H.next < roots then
        some (.slice H.next new.length 0 n sz, ⟨H.next + 1, Tr.set depth H.t H.next ⟨new, 0, false⟩⟩) else none
    | .slice r v off len z =>
      if z = sz ∧ off = 0 ∧ len * sz = v ∧ (len + n) * bytes ≤ 2 ^ 40 ∧ len + n ≤ 2 ^ 40 then
        if n = 0 then some (.slice r v off len z, H) else
        match H.t.get r with
        | some b => if b.ro = false ∧ v = b.cells.length ∧ b.minv ≤ v then
            some (.slice r (v + new.length) 0 (len + n) sz, ⟨H.next, Tr.set depth H.t r ⟨b.cells ++ new, b.minv, false⟩⟩) else none
        | none => none
      else none
    | _ => none
  else none
/-- The same, where the slice may be one of the call's own. -/
noncomputable def appW (H : Hp) (s : AV) (sz bytes n : Nat) (new : List AV) : Option (AV × Hp) :=
  match s with
  | .own r len z => match appV H (.slice r (len * z) 0 len z) sz bytes n new with
    | some (_, H') => some (.own r (len + n) z, H')
    | none => none
  | s => appV H s sz bytes n new
/-- What is appended or copied: the cells of the first n elements, and how many there are. -/
def srcLen : AV → Option Nat
  | .nils => some 0
  | .slice _ _ _ len _ => some len
  | .str s => some s.length
  | .vec n _ _ => some n
  | .own _ len _ => some len
  | _ => none
noncomputable def srcCells (H : Hp) (sz n : Nat) : AV → Option (List AV)
  | .nils => if n = 0 then some [] else none
  | .slice r v off len z => if z = sz ∧ n ≤ len then rd H r v off (n * sz) else none
  | .str s => if sz = 1 ∧ n ≤ s.length then some ((s.take n).map fun b : Nat => AV.int .u8 (b : Int)) else none
  | .vec n' z cells => if z = sz ∧ n ≤ n' then some (cells.take (n * sz)) else none
  | .own r len z => if n = 0 then some [] else if z = sz ∧ n ≤ len then rd H r (len * z) 0 (n * sz) else none
  | _ => none

noncomputable def opnd (env : Env) : Operand → AV
  | .tmp t => look env t
  | .const v => ofVal v
  | .global _ => .top
  | .func f => .func f [] []
def fieldsZ (C : Cx) : List (Nat × Nat) → Option (List (Nat × Nat))
  | [] => some []
  | (o, t) :: r => match sizeOfT C t, fieldsZ C r with | some z, some l => some ((o, z) :: l) | _, _ => none

/-- Not copied out of, so far. -/
def noCopy : AV → Bool
  | .vec .. | .own .. => true
  | _ => false
noncomputable def callB (C : Cx) (H : Hp) (b : Builtin) (argTypes : List Nat) (args : List AV) : Option (AV × Hp) :=
  match b, argTypes, args with
  | .len, t :: _, [x] => match C.ti t with
    | some i => match i.kind, x with
      | .string, .str s => some (.int .i64 s.length, H)
      | .array, _ => some (.int .i64 i.len, H)
      | .slice, .slice _ _ _ len _ => some (.int .i64 len, H)
      | .slice, .nils => some (.int .i64 0, H)
      | .slice, .vec n _ _ => some (.int .i64 n, H)
      | .slice, .own _ len _ => some (.int .i64 len, H)
      | _, _ => none
    | none => none
  | .append, [t, u], [s, x] => match C.ti t, C.ti u with
    | some i, some j => match i.kind, C.ti i.elem with
      | .slice, some e => match j.kind == .slice || j.kind == .string, srcLen x, e.zero with
        | true, some n, some z => match srcCells H e.size n x with
          | some new => if z.length = e.size then appW H s e.size e.bytes n new else none
          | none => none
        | _, _, _ => none
      | _, _ => none
    | _, _ => none
  | .copy, t :: _, [d, x] => match C.ti t with
    | some i => match i.kind, C.ti i.elem, d, srcLen x with
      | .slice, some e, .slice r v off len z, some sl => if z = e.size ∧ 0 < z ∧ noCopy x = false then
          match srcCells H e.size (min sl len) x with
          | some cs => if cs.length = 0 then (if min sl len = 0 then some (.int .i64 0, H) else none) else match wr H r v off cs with
            | some H' => some (.int .i64 (min sl len : Nat), H')
            | none => none
          | none => none else none
      | _, _, _, _ => none
    | none => none
  | .max, _, [.int k x, .int k' y] => some (.int k (if x < y then y else x), H)
  | .min, _, [.int k x, .int k' y] => some (.int k (if y < x then y else x), H)
  | _, _, _ => none

/-- What an operation gives that calls no function. -/
noncomputable def opV (C : Cx) (env : Env) (H : Hp) (o : Oper) : Option (AV × Hp) :=
  match o.op with
  | .move x | .assign x => some (opnd env x, H)
  | .pick c a b => match opnd env c with
    | .bool t => some (opnd env (if t then a else b), H)
    | _ => none
  | .alloc t => match C.ti t with
    | some i => match i.zero with | some z => alloc1 H z | none => none
    | none => none
  | .box t x => if (opnd env x).is then alloc1 H (cellsOf (opnd env x)) else none
  | .build t parts => match C.ti t with
    | some i => match i.zero with
      | some z => match i.kind with
        | .struct => match fieldsZ C i.fields with
          | some fs => (fillL (fun k => fs[k]?) z (parts.toList.map fun p => (p.1, opnd env p.2))).map fun cs => (.agg cs, H)
          | none => none
        | .array => match sizeOfT C i.elem with
          | some n => (fillL (fun k => some (k * n, n)) z (parts.toList.map fun p => (p.1, opnd env p.2))).map fun cs => (.agg cs, H)
          | none => none
        | _ => none
      | none => none
    | none => none
  | .buildSlice t len parts => match C.ti t with
    | some i => match i.kind, C.ti i.elem with
      | .slice, some e => match e.zero with
        | some z => if z.length = e.size ∧ 0 < e.size ∧ len * e.size ≤ 2 ^ 24 then
            match fillL (fun k => some (k * e.size, e.size)) (rep z len) (parts.toList.map fun p => (p.1, opnd env p.2)) with
            | some cs => match alloc1 H cs with
              | some (.ptr r v _, H') => some (.slice r v 0 len e.size, H')
              | _ => none
            | none => none
          else none
        | none => none
      | _, _ => none
    | none => none
  | .load t a => match C.ti t, opnd env a with
    | some i, .ptr r v off => match rd H r v off i.size with
      | some cs => (mkVal i.kind.isAgg cs).map fun x => (x, H)
      | none => none
    | some i, .vptr cs => if i.size ≤ cs.length then (mkVal i.kind.isAgg (cs.take i.size)).map fun x => (x, H) else none
    | _, _ => none
  | .store t a x => match C.ti t, opnd env a with
    | some i, .ptr r v off => if (opnd env x).is = true ∧ (cellsOf (opnd env x)).length = i.size then (wr H r v off (cellsOf (opnd env x))).map fun H' => (.top, H') else none
    | _, _ => none
  | .nilCheck x => match opnd env x with
    | .ptr r v off => some (.ptr r v off, H)
    | .vptr cs => some (.vptr cs, H)
    | .func f a b => some (.func f a b, H)
    | _ => none
  | .binOp op t x y _ => (binV C op t (opnd env x) (opnd env y)).map fun v => (v, H)
  | .unOp op _ x => (unV op (opnd env x)).map fun v => (v, H)
  | .convert s d x => convV C H s d (opnd env x)
  | .makeInterface t x => match C.ti t with
    | some i => match i.kind with | .iface => none | _ => some (.iface t (opnd env x), H)
    | none => none
  | .makeFunc (.func f) first caps => some (.func f (first.toList.map (opnd env)) (caps.toList.map (opnd env)), H)
  | .makeSlice t l c => match C.ti t, opnd env l, opnd env c with
    | some i, .int _ n, .int _ k => match i.kind, C.ti i.elem with
      | .slice, some e => match e.zero with
        | some z => if n = k ∧ 0 ≤ n ∧ n * e.bytes ≤ 2 ^ 40 ∧ n ≤ 2 ^ 40 ∧ z.length = e.size ∧ 0 < e.size then
            match alloc1 H (rep z n.toNat) with
            | some (.ptr r v _, H') => some (.slice r v 0 n.toNat e.size, H')
            | _ => none
          else none
        | none => none
      | _, _ => none
    | _, _, _ => none
  | .slice t x lo hi none => (sliceV C t (opnd env x) (lo.map (opnd env)) (hi.map (opnd env))).map fun v => (v, H)
  | .fieldAddr s x f => match C.ti s, opnd env x with
    | some i, .ptr r v off => match i.kind, i.fields[f]? with
      | .struct, some (o, t) => match sizeOfT C t with
        | some z => if z = 0 then none else some (.ptr r v (off + o), H)
        | none => none
      | _, _ => none
    | some i, .vptr cs => match i.kind, i.fields[f]? with
      | .struct, some (o, t) => match sizeOfT C t with
        | some z => if z ≠ 0 ∧ o + z ≤ cs.length then some (.vptr (cs.drop o), H) else none
        | none => none
      | _, _ => none
    | _, _ => none
  | .field t x f => match C.ti t, opnd env x with
    | some i, .agg cs => match i.kind, i.fields[f]? with
      | .struct, some (o, u) => match C.ti u with
        | some j => (if j.kind.isAgg then some (.agg ((cs.drop o).take j.size)) else cs[o]?).map fun v => (v, H)
        | none => none
      | _, _ => none
    | _, _ => none
  | .indexAddr t x ix => match C.ti t, opnd env x, opnd env ix with
    | some i, .slice r v off len sz, .int _ k => match i.kind, sizeOfT C i.elem with
      | .slice, some z => if z = sz ∧ 0 ≤ k ∧ k < len then some (.ptr r v (off + k.toNat * sz), H) else none
      | _, _ => none
    | some i, .ptr r v off, .int _ k => match i.kind, sizeOfT C i.elem with
      | .array, some z => if 0 ≤ k ∧ k < i.len then some (.ptr r v (off + k.toNat * z), H) else none
      | _, _ => none
    | some i, .vec n sz cells, .int _ k => match i.kind, sizeOfT C i.elem with
      | .slice, some z => if z = sz ∧ 0 ≤ k ∧ k < n then some (.vptr ((cells.drop (k.toNat * sz)).take sz), H) else none
      | _, _ => none
    | some i, .own r len sz, .int _ k => match i.kind, sizeOfT C i.elem with
      | .slice, some z => if z = sz ∧ 0 ≤ k ∧ k < len then some (.ptr r (len * sz) (k.toNat * sz), H) else none
      | _, _ => none
    | _, _, _ => none
  | .index t x ix => match C.ti t, opnd env x, opnd env ix with
    | some i, .str s, .int _ k => match i.kind with
      | .string => if 0 ≤ k then match s[k.toNat]? with | some b => some (.int .u8 (b : Int), H) | none => none else none
      | _ => none
    | some i, .agg cs, .int _ k => match i.kind, C.ti i.elem with
      | .array, some j => if 0 ≤ k ∧ k < i.len then
          (if j.kind.isAgg then some (.agg ((cs.drop (k.toNat * j.size)).take j.size)) else cs[k.toNat * j.size]?).map fun v => (v, H)
          else none
      | _, _ => none
    | _, _, _ => none
  | .typeAssert x _ T ok => match C.ti T, opnd env x with
    | some i, .iface t v => match i.kind with
      | .iface => none
      | _ => if t = T then some (if ok then .tuple [v, .bool true] else v, H) else none
    | _, _ => none
  | .extract t ix => match opnd env t with
    | .tuple vs => match vs[ix]? with | some v => some (v, H) | none => none
    | _ => none
  | .call ⟨.builtin b, args, ts⟩ => callB C H b ts.toList (args.toList.map (opnd env))
  | _ => none
end Go.Proofs.Ytfkefelgjbfkjaa.Am
