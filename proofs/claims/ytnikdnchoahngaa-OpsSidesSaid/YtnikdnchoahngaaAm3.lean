/- What making, writing and growing memory does, told and in Go's memory. -/
import Derived.Test.YtnikdnchoahngaaAm2
import Derived.Laws.IdiomCopy
set_option linter.unusedVariables false
namespace Go.Proofs.Ytnikdnchoahngaa.Am
open Go

/-- The world with one block's content turned. -/
def wset (w : World) (B : Nat) (o : Obj) : World := { w with heap := w.heap.setIfInBounds B o }
def putA (cs : Array Value) : Nat → List Value → Array Value
  | _, [] => cs
  | i, v :: r => putA (cs.setIfInBounds i v) (i + 1) r
def putL (xs : List AV) : Nat → List AV → List AV
  | _, [] => xs
  | i, v :: r => putL (xs.set i v) (i + 1) r
theorem putA_size (cs : Array Value) : ∀ (vs : List Value) (i : Nat), (putA cs i vs).size = cs.size
  | [], _ => rfl
  | v :: r, i => by rw [putA, putA_size (cs.setIfInBounds i v) r (i + 1)]; simp
theorem putL_length (xs : List AV) : ∀ (vs : List AV) (i : Nat), (putL xs i vs).length = xs.length
  | [], _ => rfl
  | v :: r, i => by rw [putL, putL_length (xs.set i v) r (i + 1)]; simp
theorem putA_get_lo (cs : Array Value) : ∀ (vs : List Value) (i j : Nat), j < i → (putA cs i vs)[j]? = cs[j]?
  | [], _, _, _ => rfl
  | v :: r, i, j, h => by rw [putA, putA_get_lo (cs.setIfInBounds i v) r (i + 1) j (by omega), Array.getElem?_setIfInBounds_ne (by omega)]
theorem putA_get_in (cs : Array Value) : ∀ (vs : List Value) (i j : Nat) (v : Value), vs[j]? = some v → i + j < cs.size → (putA cs i vs)[i + j]? = some v
  | [], _, _, _, h, _ => by simp at h
  | u :: r, i, 0, v, h, hs => by
    simp at h
    subst h
    show (putA (cs.setIfInBounds i u) (i + 1) r)[i]? = some u
    rw [putA_get_lo _ r (i + 1) i (by omega)]
    have : i < cs.size := by omega
    simp [this]
  | u :: r, i, j + 1, v, h, hs => by
    simp at h
    rw [putA, show i + (j + 1) = i + 1 + j by omega]
    exact putA_get_in (cs.setIfInBounds i u) r (i + 1) j v h (by simp; omega)
theorem putA_take (cs : Array Value) (n : Nat) (vs : List Value) (i : Nat) (h : n ≤ i) : (putA cs i vs).toList.take n = cs.toList.take n := by
  apply List.ext_getElem?
  intro j
  rw [List.getElem?_take, List.getElem?_take]
  split
  · rw [Array.getElem?_toList, Array.getElem?_toList, putA_get_lo cs vs i j (by omega)]
  · rfl
theorem putA_take_put (cs : Array Value) (vs : List Value) (i : Nat) (h : i + vs.length ≤ cs.size) : (putA cs i vs).toList.take (i + vs.length) = cs.toList.take i ++ vs := by
  have h0 : (cs.toList.take i).length = i := by rw [List.length_take, Array.length_toList]; omega
  apply List.ext_getElem?
  intro j
  rw [List.getElem?_take]
  by_cases h1 : j < i
  · rw [if_pos (by omega), List.getElem?_append_left (by omega), List.getElem?_take, if_pos h1, Array.getElem?_toList, Array.getElem?_toList, putA_get_lo cs vs i j h1]
  · rw [List.getElem?_append_right (by omega), h0]
    by_cases h2 : j < i + vs.length
    · rw [if_pos h2, Array.getElem?_toList]
      have h3 : j - i < vs.length := by omega
      have := putA_get_in cs vs i (j - i) vs[j - i] (List.getElem?_eq_getElem h3) (by omega)
      rw [show i + (j - i) = j by omega] at this
      rw [this, List.getElem?_eq_getElem h3]
    · rw [if_neg h2, List.getElem?_eq_none (by omega)]
theorem setCell_wset (w : World) (B i : Nat) (cs : Array Value) (ty : TypeId) (fr : Nat × Nat) (v : Value) (h : w.heap[B]? = some (.cells cs ty fr)) :
    w.setCell ⟨B, i, none⟩ v = wset w B (.cells (cs.setIfInBounds i v) ty fr) := by
  obtain ⟨hB, hg⟩ := Array.getElem?_eq_some_iff.1 h
  unfold World.setCell wset
  congr 1
  apply Array.ext
  · simp
  · intro j h1 h2
    rw [Array.getElem_modify, Array.getElem_setIfInBounds]
    by_cases e : B = j
    · subst e
      rw [if_pos rfl, if_pos rfl, hg]
      simp
    · rw [if_neg e, if_neg e]
theorem wset_get (w : World) (B : Nat) (o : Obj) (h : B < w.heap.size) : (wset w B o).heap[B]? = some o := by
  simp [wset, h]
theorem wset_get_ne (w : World) (B C : Nat) (o : Obj) (h : B ≠ C) : (wset w B o).heap[C]? = w.heap[C]? := by
  simp [wset, Array.getElem?_setIfInBounds_ne h]
theorem wset_wset (w : World) (B : Nat) (o o' : Obj) : wset (wset w B o) B o' = wset w B o' := by
  unfold wset
  simp [Array.setIfInBounds_setIfInBounds]
theorem wset_size (w : World) (B : Nat) (o : Obj) : (wset w B o).heap.size = w.heap.size := by simp [wset]
theorem addr_add (B o i : Nat) : (⟨B, o, none⟩ : Addr).add i = ⟨B, o + i, none⟩ := by unfold Addr.add; split <;> simp_all
theorem cell_of (w : World) (B i : Nat) (cs : Array Value) (ty : TypeId) (fr : Nat × Nat) (h : w.heap[B]? = some (.cells cs ty fr)) : w.cell? ⟨B, i, none⟩ = cs[i]? := by
  simp [World.cell?, h]
theorem frozen_of (w : World) (B i N : Nat) (cs : Array Value) (ty : TypeId) (fr : Nat × Nat) (h : w.heap[B]? = some (.cells cs ty fr)) (hf : Free fr N) (hi : i < N) : w.frozen? ⟨B, i, none⟩ = false := by
  have := hf i hi
  simp only [World.frozen?, h]
  simp
  omega
theorem run_storeCells_wset (P : Program) (B o : Nat) (ty : TypeId) (fr : Nat × Nat) : ∀ (vs : List Value) (i : Nat) (cs : Array Value) (w : World), w.heap[B]? = some (.cells cs ty fr) → o + i + vs.length ≤ cs.size → Free fr cs.size → (∀ v ∈ vs, v.oneCell' = true) →
    (storeCells ⟨B, o, none⟩ vs i).run P w = .ok () (if vs = [] then w else wset w B (.cells (putA cs (o + i) vs) ty fr))
  | [], _, _, _, _, _, _, _ => rfl
  | v :: r, i, cs, w, h, hl, hf, h1 => by
    obtain ⟨hB, hg⟩ := Array.getElem?_eq_some_iff.1 h
    simp only [List.length_cons] at hl
    have hst : (store ((⟨B, o, none⟩ : Addr).add i) v).run P w = .ok () (wset w B (.cells (cs.setIfInBounds (o + i) v) ty fr)) := by
      rw [addr_add, run_store P w _ v _ (h1 v (by simp)), cell_of w B _ cs ty fr h, frozen_of w B _ cs.size cs ty fr h hf (by omega), setCell_wset w B _ cs ty fr v h]
      rw [Array.getElem?_eq_getElem (by omega)]
      simp
    have ih := run_storeCells_wset P B o ty fr r (i + 1) (cs.setIfInBounds (o + i) v) (wset w B (.cells (cs.setIfInBounds (o + i) v) ty fr)) (wset_get _ _ _ hB) (by simp; omega) (by simpa using hf) (fun x hx => h1 x (by simp [hx]))
    simp only [storeCells, Sem.run_bind, hst, Result.andThen_ok, ih, putA, wset_wset]
    rw [show o + (i + 1) = o + i + 1 by omega]
    by_cases hr : r = []
    · subst hr; simp [putA]
    · simp [hr]
theorem VRs.put {m : Mp} : ∀ {vs : List AV} {us : List Value} (i : Nat) {xs : List AV} {cs : Array Value} (v : Nat), VRs m xs (cs.toList.take v) → VRs m vs us → VRs m (putL xs i vs) ((putA cs i us).toList.take v)
  | [], us, i, xs, cs, v, h, k => by simp only [VRs] at k; subst k; exact h
  | x :: vs, us, i, xs, cs, v, h, k => by
    simp only [VRs] at k
    obtain ⟨u, us, rfl, k1, k2⟩ := k
    rw [putL, putA]
    refine VRs.put (i + 1) v ?_ k2
    rw [Array.toList_setIfInBounds, List.take_set]
    exact VRs.set i x u h k1

theorem RW.lt {m : Mp} {H : Hp} {w : World} {base : Nat} (h : RW m H w base) {r : Nat} {b : Blk} (hb : H.t.get r = some b) : r < H.next := by
  rcases Nat.lt_or_ge r H.next with h1 | h1
  · exact h1
  · rw [h.fresh r h1] at hb; cases hb
theorem fits {H : Hp} (h : H.next ≤ roots) {r : Nat} (hr : r < H.next) : r + 1 < 2 ^ depth := by
  unfold roots at h; unfold depth; omega

/-- One block's content is turned, by its newest version. -/
theorem RW.upd {m : Mp} {H : Hp} {w : World} {base : Nat} (h : RW m H w base) {r : Nat} {b : Blk} {B N : Nat} (hb : H.t.get r = some b) (hro : b.ro = false)
    (hm : m r b.cells.length = some (B, N)) (hmin : b.minv ≤ b.cells.length) {cs cs' : Array Value} {ty : TypeId} {fr : Nat × Nat} (hc : w.heap[B]? = some (.cells cs ty fr)) (hsz : cs'.size = cs.size)
    {cells' : List AV} (hl : cells'.length = b.cells.length) (hrel : VRs m cells' (cs'.toList.take b.cells.length)) :
    RW m ⟨H.next, Tr.set depth H.t r ⟨cells', b.cells.length, false⟩⟩ (wset w B (.cells cs' ty fr)) base ∧ St m w base m (wset w B (.cells cs' ty fr)) := by
  have hr := h.lt hb
  obtain ⟨b0, hb0, hv0, hBs, hbase⟩ := h.dom _ _ _ _ hm
  obtain rfl : b0 = b := by rw [hb] at hb0; cases hb0; rfl
  obtain ⟨cs1, ty1, fr1, hc1, hs1, hN1, hf1, hr1⟩ := h.blk _ _ _ _ _ hb hm hmin (Nat.le_refl _)
  obtain ⟨rfl, rfl, rfl⟩ : cs1 = cs ∧ ty1 = ty ∧ fr1 = fr := by rw [hc] at hc1; cases hc1; exact ⟨rfl, rfl, rfl⟩
  have eqr := Tr.get_set_eq depth H.t r ⟨cells', b0.cells.length, false⟩ (fits h.low hr)
  have ner := fun r' (hne : r ≠ r') => Tr.get_set_ne depth H.t r r' ⟨cells', b0.cells.length, false⟩ hne
  refine ⟨⟨?_, ?_, h.sep, ?_, h.vle, by rw [wset_size]; exact h.base_le, h.low⟩, ⟨Sub.refl m, fun r v B N e => .inl ⟨v, N, e⟩, by rw [wset_size]; exact Nat.le_refl _, rfl, rfl, rfl, ?_⟩⟩
  · intro r' b' v' B' N' hb' hm' hmin' hv'
    by_cases e : r = r'
    · subst e
      rw [eqr] at hb'
      cases hb'
      simp only at hmin' hv'
      obtain rfl : v' = b0.cells.length := by omega
      rw [hm] at hm'
      cases hm'
      refine ⟨cs', ty1, fr1, wset_get _ _ _ hBs, by rw [hsz]; exact hs1, hN1, fun _ => hf1 hro, ?_⟩
      rw [List.take_of_length_le (show cells'.length ≤ b0.cells.length by omega)]
      exact hrel
    · rw [ner r' e] at hb'
      obtain ⟨cs2, ty2, fr2, h2, h3⟩ := h.blk _ _ _ _ _ hb' hm' hmin' hv'
      refine ⟨cs2, ty2, fr2, ?_, h3⟩
      rw [wset_get_ne _ _ _ _ ?_]
      · exact h2
      · rintro rfl
        exact e (h.sep _ _ _ _ _ _ _ hm hm' (hbase hro))
  · intro r' v' B' N' hm'
    obtain ⟨b', h1, h2, h3, h4⟩ := h.dom _ _ _ _ hm'
    by_cases e : r = r'
    · subst e
      rw [hb] at h1
      cases h1
      exact ⟨_, eqr, by show v' ≤ cells'.length; omega, by rw [wset_size]; exact h3, fun _ => h4 hro⟩
    · exact ⟨b', by rw [ner r' e]; exact h1, h2, by rw [wset_size]; exact h3, h4⟩
  · intro r' hr'
    have hr' : H.next ≤ r' := hr'
    rw [ner r' (by omega)]
    exact h.fresh r' hr'
  · intro B' hB' hn
    refine wset_get_ne _ _ _ _ ?_
    rintro rfl
    have := hn _ _ _ hm
    have := hbase hro
    omega

def Mp.add (m : Mp) (r v : Nat) (p : Nat × Nat) : Mp := fun r' v' => if r' = r ∧ v' = v then some p else m r' v'
theorem Mp.add_same (m : Mp) (r v : Nat) (p : Nat × Nat) : m.add r v p r v = some p := by simp [Mp.add]
theorem Mp.add_sub {m : Mp} {r v : Nat} {p : Nat × Nat} (h : m r v = none) : Sub m (m.add r v p) := by
  intro r' v' q hq
  unfold Mp.add
  rw [if_neg ?_]
  · exact hq
  · rintro ⟨rfl, rfl⟩; rw [h] at hq; cases hq
theorem Mp.add_cases {m : Mp} {r v : Nat} {p : Nat × Nat} {r' v' : Nat} {q : Nat × Nat} (h : m.add r v p r' v' = some q) : (r' = r ∧ v' = v ∧ q = p) ∨ m r' v' = some q := by
  unfold Mp.add at h
  by_cases e : r' = r ∧ v' = v
  · rw [if_pos e] at h; cases h; exact .inl ⟨e.1, e.2, rfl⟩
  · rw [if_neg e] at h; exact .inr h

/-- The world with a block more. -/
def wnew (w : World) (o : Obj) : World := { w with heap := w.heap.push o }
theorem wnew_size (w : World) (o : Obj) : (wnew w o).heap.size = w.heap.size + 1 := by simp [wnew]
theorem wnew_get (w : World) (o : Obj) : (wnew w o).heap[w.heap.size]? = some o := by
  show (w.heap.push o)[w.heap.size]? = some o
  simp
theorem wnew_old (w : World) (o : Obj) (i : Nat) (h : i < w.heap.size) : (wnew w o).heap[i]? = w.heap[i]? := by
  show (w.heap.push o)[i]? = w.heap[i]?
  rw [Array.getElem?_push, if_neg (Nat.ne_of_lt h)]

/-- Memory is made: a root more. -/
theorem RW.alloc {m : Mp} {H : Hp} {w : World} {base : Nat} (h : RW m H w base) (hlow : H.next < roots) (cells : List AV) (cs : Array Value) (ty : TypeId) (fr : Nat × Nat) (hf : Free fr cs.size) (hl : cells.length ≤ cs.size)
    (hrel : VRs m cells (cs.toList.take cells.length)) :
    RW (m.add H.next cells.length (w.heap.size, cs.size)) ⟨H.next + 1, Tr.set depth H.t H.next ⟨cells, 0, false⟩⟩ (wnew w (.cells cs ty fr)) base ∧
    St m w base (m.add H.next cells.length (w.heap.size, cs.size)) (wnew w (.cells cs ty fr)) := by
  have eqr := Tr.get_set_eq depth H.t H.next ⟨cells, 0, false⟩ (by unfold roots at hlow; unfold depth; omega)
  have ner := fun r' (hne : H.next ≠ r') => Tr.get_set_ne depth H.t H.next r' ⟨cells, 0, false⟩ hne
  have hnone : ∀ v, m H.next v = none := by
    intro v
    cases e : m H.next v with
    | none => rfl
    | some p =>
      obtain ⟨b, hb, _⟩ := h.dom H.next v p.1 p.2 e
      rw [h.fresh _ (Nat.le_refl _)] at hb; cases hb
  have hsub : Sub m (m.add H.next cells.length (w.heap.size, cs.size)) := Mp.add_sub (hnone _)
  have hnext : ∀ r' v' q, m r' v' = some q → H.next ≠ r' := by
    rintro r' v' q hq rfl; rw [hnone] at hq; cases hq
  refine ⟨⟨?_, ?_, ?_, ?_, (fun r' v' B' N' hm' => by rcases Mp.add_cases hm' with ⟨_, rfl, e⟩ | hm''; (cases e; assumption); exact h.vle _ _ _ _ hm''), by rw [wnew_size]; exact Nat.le_succ_of_le h.base_le, by simp only; omega⟩, ⟨hsub, ?_, by rw [wnew_size]; omega, rfl, rfl, rfl, fun B hB _ => wnew_old _ _ _ hB⟩⟩
  · intro r' b' v' B' N' hb' hm' hmin' hv'
    rcases Mp.add_cases hm' with ⟨rfl, rfl, e⟩ | hm''
    · cases e
      rw [eqr] at hb'
      cases hb'
      refine ⟨cs, ty, fr, wnew_get _ _, rfl, hl, fun _ => hf, ?_⟩
      rw [List.take_of_length_le (Nat.le_refl _)]
      exact VRs.mono hsub _ _ hrel
    · have hne := hnext _ _ _ hm''
      rw [ner r' hne] at hb'
      obtain ⟨cs2, ty2, fr2, h2, h3, h4, h5, h6⟩ := h.blk _ _ _ _ _ hb' hm'' hmin' hv'
      obtain ⟨_, _, _, hlt, _⟩ := h.dom _ _ _ _ hm''
      exact ⟨cs2, ty2, fr2, by rw [wnew_old _ _ _ hlt]; exact h2, h3, h4, h5, VRs.mono hsub _ _ h6⟩
  · intro r' v' B' N' hm'
    rcases Mp.add_cases hm' with ⟨rfl, rfl, e⟩ | hm''
    · cases e
      exact ⟨_, eqr, Nat.le_refl _, by rw [wnew_size]; omega, fun _ => h.base_le⟩
    · obtain ⟨b', h1, h2, h3, h4⟩ := h.dom _ _ _ _ hm''
      exact ⟨b', by rw [ner r' (hnext _ _ _ hm'')]; exact h1, h2, by rw [wnew_size]; omega, h4⟩
  · intro r1 v1 B1 N1 r2 v2 N2 h1 h2 hB
    rcases Mp.add_cases h1 with ⟨rfl, rfl, e1⟩ | h1'
    · cases e1
      rcases Mp.add_cases h2 with ⟨rfl, rfl, e2⟩ | h2'
      · rfl
      · obtain ⟨_, _, _, hlt, _⟩ := h.dom _ _ _ _ h2'
        omega
    · rcases Mp.add_cases h2 with ⟨rfl, rfl, e2⟩ | h2'
      · cases e2
        obtain ⟨_, _, _, hlt, _⟩ := h.dom _ _ _ _ h1'
        omega
      · exact h.sep _ _ _ _ _ _ _ h1' h2' hB
  · intro r' hr'
    simp only at hr'
    rw [ner r' (by omega)]
    exact h.fresh r' (by omega)
  · intro r' v' B' N' hm'
    rcases Mp.add_cases hm' with ⟨rfl, rfl, e⟩ | hm''
    · cases e; exact .inr (Nat.le_refl _)
    · exact .inl ⟨v', N', hm''⟩

/-- The newest version grows in its block. -/
theorem RW.extend {m : Mp} {H : Hp} {w : World} {base : Nat} (h : RW m H w base) {r : Nat} {b : Blk} {B N : Nat} (hb : H.t.get r = some b) (hro : b.ro = false)
    (hm : m r b.cells.length = some (B, N)) (hmin : b.minv ≤ b.cells.length) {cs cs' : Array Value} {ty : TypeId} {fr : Nat × Nat} (hc : w.heap[B]? = some (.cells cs ty fr)) (hsz : cs'.size = cs.size)
    (new : List AV) (hk : 0 < new.length) (hN : b.cells.length + new.length ≤ N) (hold : cs'.toList.take b.cells.length = cs.toList.take b.cells.length)
    (hrel : VRs m (b.cells ++ new) (cs'.toList.take (b.cells.length + new.length))) :
    RW (m.add r (b.cells.length + new.length) (B, N)) ⟨H.next, Tr.set depth H.t r ⟨b.cells ++ new, b.minv, false⟩⟩ (wset w B (.cells cs' ty fr)) base ∧
    St m w base (m.add r (b.cells.length + new.length) (B, N)) (wset w B (.cells cs' ty fr)) := by
  have hr := h.lt hb
  obtain ⟨b0, hb0, hv0, hBs, hbase⟩ := h.dom _ _ _ _ hm
  obtain rfl : b0 = b := by rw [hb] at hb0; cases hb0; rfl
  obtain ⟨cs1, ty1, fr1, hc1, hs1, hN1, hf1, hr1⟩ := h.blk _ _ _ _ _ hb hm hmin (Nat.le_refl _)
  obtain ⟨rfl, rfl, rfl⟩ : cs1 = cs ∧ ty1 = ty ∧ fr1 = fr := by rw [hc] at hc1; cases hc1; exact ⟨rfl, rfl, rfl⟩
  have eqr := Tr.get_set_eq depth H.t r ⟨b0.cells ++ new, b0.minv, false⟩ (fits h.low hr)
  have ner := fun r' (hne : r ≠ r') => Tr.get_set_ne depth H.t r r' ⟨b0.cells ++ new, b0.minv, false⟩ hne
  have hnone : m r (b0.cells.length + new.length) = none := by
    cases e : m r (b0.cells.length + new.length) with
    | none => rfl
    | some p =>
      obtain ⟨b, hb', hv', _⟩ := h.dom _ _ p.1 p.2 e
      rw [hb] at hb'; cases hb'
      omega
  have hsub : Sub m (m.add r (b0.cells.length + new.length) (B, N)) := Mp.add_sub hnone
  have htake : ∀ v', v' ≤ b0.cells.length → cs'.toList.take v' = cs1.toList.take v' := by
    intro v' hv'
    have := congrArg (List.take v') hold
    rwa [List.take_take, List.take_take, Nat.min_eq_left hv'] at this
  refine ⟨⟨?_, ?_, ?_, ?_, (fun r' v' B' N' hm' => by rcases Mp.add_cases hm' with ⟨_, rfl, e⟩ | hm''; (cases e; assumption); exact h.vle _ _ _ _ hm''), by rw [wset_size]; exact h.base_le, h.low⟩, ⟨hsub, ?_, by rw [wset_size]; exact Nat.le_refl _, rfl, rfl, rfl, ?_⟩⟩
  · intro r' b' v' B' N' hb' hm' hmin' hv'
    rcases Mp.add_cases hm' with ⟨rfl, rfl, e⟩ | hm''
    · cases e
      rw [eqr] at hb'
      cases hb'
      refine ⟨cs', ty1, fr1, wset_get _ _ _ hBs, by rw [hsz]; exact hs1, hN, fun _ => hf1 hro, ?_⟩
      rw [List.take_of_length_le (by simp)]
      exact VRs.mono hsub _ _ hrel
    · by_cases e : r = r'
      · subst e
        rw [eqr] at hb'
        cases hb'
        obtain ⟨b2, hb2, hv2, _⟩ := h.dom _ _ _ _ hm''
        rw [hb] at hb2
        cases hb2
        simp only at hmin'
        obtain ⟨cs2, ty2, fr2, h2, h3, h4, h5, h6⟩ := h.blk _ _ _ _ _ hb hm'' hmin' hv2
        have hpre : (b0.cells ++ new).take v' = b0.cells.take v' := by rw [List.take_append_of_le_length hv2]
        by_cases eB : B = B'
        · subst eB
          rw [hc] at h2
          cases h2
          refine ⟨cs', ty1, fr1, wset_get _ _ _ hBs, by rw [hsz]; exact h3, h4, fun _ => h5 hro, ?_⟩
          simp only
          rw [hpre, htake v' hv2]
          exact VRs.mono hsub _ _ h6
        · refine ⟨cs2, ty2, fr2, by rw [wset_get_ne _ _ _ _ eB]; exact h2, h3, h4, fun _ => h5 hro, ?_⟩
          simp only
          rw [hpre]
          exact VRs.mono hsub _ _ h6
      · rw [ner r' e] at hb'
        obtain ⟨cs2, ty2, fr2, h2, h3, h4, h5, h6⟩ := h.blk _ _ _ _ _ hb' hm'' hmin' hv'
        refine ⟨cs2, ty2, fr2, ?_, h3, h4, h5, VRs.mono hsub _ _ h6⟩
        rw [wset_get_ne _ _ _ _ ?_]
        · exact h2
        · rintro rfl
          exact e (h.sep _ _ _ _ _ _ _ hm hm'' (hbase hro))
  · intro r' v' B' N' hm'
    rcases Mp.add_cases hm' with ⟨rfl, rfl, e⟩ | hm''
    · cases e
      exact ⟨_, eqr, by simp, by rw [wset_size]; exact hBs, fun _ => hbase hro⟩
    · obtain ⟨b', h1, h2, h3, h4⟩ := h.dom _ _ _ _ hm''
      by_cases e : r = r'
      · subst e
        rw [hb] at h1
        cases h1
        exact ⟨_, eqr, by simp; omega, by rw [wset_size]; exact h3, fun _ => h4 hro⟩
      · exact ⟨b', by rw [ner r' e]; exact h1, h2, by rw [wset_size]; exact h3, h4⟩
  · intro r1 v1 B1 N1 r2 v2 N2 h1 h2 hB
    rcases Mp.add_cases h1 with ⟨rfl, rfl, e1⟩ | h1'
    · cases e1
      rcases Mp.add_cases h2 with ⟨rfl, rfl, e2⟩ | h2'
      · rfl
      · exact h.sep _ _ _ _ _ _ _ hm h2' hB
    · rcases Mp.add_cases h2 with ⟨rfl, rfl, e2⟩ | h2'
      · cases e2
        exact h.sep _ _ _ _ _ _ _ h1' hm hB
      · exact h.sep _ _ _ _ _ _ _ h1' h2' hB
  · intro r' hr'
    have hr' : H.next ≤ r' := hr'
    rw [ner r' (by omega)]
    exact h.fresh r' hr'
  · intro r' v' B' N' hm'
    rcases Mp.add_cases hm' with ⟨rfl, rfl, e⟩ | hm''
    · cases e; exact .inl ⟨_, _, hm⟩
    · exact .inl ⟨v', N', hm''⟩
  · intro B' hB' hn
    refine wset_get_ne _ _ _ _ ?_
    rintro rfl
    have := hn _ _ _ hm
    have := hbase hro
    omega

/-- The newest version grows into a new block. -/
theorem RW.regrow {m : Mp} {H : Hp} {w : World} {base : Nat} (h : RW m H w base) {r : Nat} {b : Blk} (hb : H.t.get r = some b) (hro : b.ro = false)
    (new : List AV) (hk : 0 < new.length) (cs' : Array Value) (ty : TypeId) (hl : b.cells.length + new.length ≤ cs'.size)
    (hrel : VRs m (b.cells ++ new) (cs'.toList.take (b.cells.length + new.length))) :
    RW (m.add r (b.cells.length + new.length) (w.heap.size, cs'.size)) ⟨H.next, Tr.set depth H.t r ⟨b.cells ++ new, b.minv, false⟩⟩ (wnew w (.cells cs' ty (0, 0))) base ∧
    St m w base (m.add r (b.cells.length + new.length) (w.heap.size, cs'.size)) (wnew w (.cells cs' ty (0, 0))) := by
  have hr := h.lt hb
  have eqr := Tr.get_set_eq depth H.t r ⟨b.cells ++ new, b.minv, false⟩ (fits h.low hr)
  have ner := fun r' (hne : r ≠ r') => Tr.get_set_ne depth H.t r r' ⟨b.cells ++ new, b.minv, false⟩ hne
  have hnone : m r (b.cells.length + new.length) = none := by
    cases e : m r (b.cells.length + new.length) with
    | none => rfl
    | some p =>
      obtain ⟨b1, hb', hv', _⟩ := h.dom _ _ p.1 p.2 e
      rw [hb] at hb'; cases hb'
      omega
  have hsub : Sub m (m.add r (b.cells.length + new.length) (w.heap.size, cs'.size)) := Mp.add_sub hnone
  refine ⟨⟨?_, ?_, ?_, ?_, (fun r' v' B' N' hm' => by rcases Mp.add_cases hm' with ⟨_, rfl, e⟩ | hm''; (cases e; assumption); exact h.vle _ _ _ _ hm''), by rw [wnew_size]; exact Nat.le_succ_of_le h.base_le, h.low⟩, ⟨hsub, ?_, by rw [wnew_size]; omega, rfl, rfl, rfl, fun B hB _ => wnew_old _ _ _ hB⟩⟩
  · intro r' b' v' B' N' hb' hm' hmin' hv'
    rcases Mp.add_cases hm' with ⟨rfl, rfl, e⟩ | hm''
    · cases e
      rw [eqr] at hb'
      cases hb'
      refine ⟨cs', ty, (0, 0), wnew_get _ _, rfl, hl, fun _ i _ => by omega, ?_⟩
      rw [List.take_of_length_le (by simp)]
      exact VRs.mono hsub _ _ hrel
    · obtain ⟨b2, hb2, hv2, hlt, _⟩ := h.dom _ _ _ _ hm''
      by_cases e : r = r'
      · subst e
        rw [eqr] at hb'
        cases hb'
        rw [hb] at hb2
        cases hb2
        simp only at hmin'
        obtain ⟨cs2, ty2, fr2, h2, h3, h4, h5, h6⟩ := h.blk _ _ _ _ _ hb hm'' hmin' hv2
        refine ⟨cs2, ty2, fr2, by rw [wnew_old _ _ _ hlt]; exact h2, h3, h4, fun _ => h5 hro, ?_⟩
        simp only
        rw [List.take_append_of_le_length hv2]
        exact VRs.mono hsub _ _ h6
      · rw [ner r' e] at hb'
        obtain ⟨cs2, ty2, fr2, h2, h3, h4, h5, h6⟩ := h.blk _ _ _ _ _ hb' hm'' hmin' hv'
        exact ⟨cs2, ty2, fr2, by rw [wnew_old _ _ _ hlt]; exact h2, h3, h4, h5, VRs.mono hsub _ _ h6⟩
  · intro r' v' B' N' hm'
    rcases Mp.add_cases hm' with ⟨rfl, rfl, e⟩ | hm''
    · cases e
      exact ⟨_, eqr, by simp, by rw [wnew_size]; omega, fun _ => h.base_le⟩
    · obtain ⟨b', h1, h2, h3, h4⟩ := h.dom _ _ _ _ hm''
      by_cases e : r = r'
      · subst e
        rw [hb] at h1
        cases h1
        exact ⟨_, eqr, by simp; omega, by rw [wnew_size]; omega, fun _ => h4 hro⟩
      · exact ⟨b', by rw [ner r' e]; exact h1, h2, by rw [wnew_size]; omega, h4⟩
  · intro r1 v1 B1 N1 r2 v2 N2 h1 h2 hB
    rcases Mp.add_cases h1 with ⟨rfl, rfl, e1⟩ | h1'
    · cases e1
      rcases Mp.add_cases h2 with ⟨rfl, rfl, e2⟩ | h2'
      · rfl
      · obtain ⟨_, _, _, hlt, _⟩ := h.dom _ _ _ _ h2'
        omega
    · rcases Mp.add_cases h2 with ⟨rfl, rfl, e2⟩ | h2'
      · cases e2
        obtain ⟨_, _, _, hlt, _⟩ := h.dom _ _ _ _ h1'
        omega
      · exact h.sep _ _ _ _ _ _ _ h1' h2' hB
  · intro r' hr'
    have hr' : H.next ≤ r' := hr'
    rw [ner r' (by omega)]
    exact h.fresh r' hr'
  · intro r' v' B' N' hm'
    rcases Mp.add_cases hm' with ⟨rfl, rfl, e⟩ | hm''
    · cases e; exact .inr (Nat.le_refl _)
    · exact .inl ⟨v', N', hm''⟩
end Go.Proofs.Ytnikdnchoahngaa.Am
