/- Laws over lists of whole numbers: the row's slice is memory that is never written (froz), a list of numbers. -/
import Derived.Test.YtfkefelgjbfkjaaBmD
import Derived.SizedLaws
import Derived.ChangeSlices
set_option linter.unusedVariables false
namespace Go.Proofs.Ytfkefelgjbfkjaa.Am
open Go Go.ChangeShapes Go.WideShapes

/-- The memory that a row's slices are. -/
def mpOf (fz : List (Nat × List AV)) : Mp := ⟨fun _ _ => none, fun i => fz[i]?⟩
/-- A law that comes out true, over memory that it reads alone. -/
theorem law_walk_fz {P : Program} {n : Nat} {xs : List AV} {args : Array Value} (h : PureOk P n xs (.bool true)) (w : World) (fz : List (Nat × List AV)) (hargs : VRs (mpOf fz) xs args.toList)
    (hfz : ∀ p ∈ fz, ∃ cs ty fr, w.heap[p.1]? = some (.cells cs ty fr) ∧ p.2.length ≤ cs.size ∧ VRs (mpOf fz) p.2 (cs.toList.take p.2.length)) :
    Calls P n args w fun e W' => e = .returned (.bool true) ∧ RowKit.Below w.heap.size w W' := by
  refine Calls.mono (h.1 (mpOf fz) w args (fun _ _ => rfl) hargs ?_) ?_
  · refine ⟨?_, ?_, ?_, fun _ _ => rfl, ?_, ?_, ?_, ⟨fz.length, fun i hi => List.getElem?_eq_none hi⟩, Nat.le_refl _, by show 0 ≤ roots; unfold roots; omega⟩
    · intro r b v B N hb hm; cases hm
    · intro r v B N hm; cases hm
    · intro r v B N r' v' N' hm; cases hm
    · intro r v B N hm; cases hm
    · intro i B cells hi
      exact hfz (B, cells) (List.mem_of_getElem? hi)
    · intro i B cells r v N b _ hm; cases hm
  · rintro e w' ⟨m', c, rfl, q1, q2, q3⟩
    simp only [VR] at q3
    exact ⟨by rw [q3], q2.below (Nat.le_refl _)⟩
theorem VRs_all {m : Mp} : ∀ {xs : List AV} {cs : List Value}, xs.length = cs.length → (∀ (i : Nat) x c, xs[i]? = some x → cs[i]? = some c → VR m x c) → VRs m xs cs
  | [], [], _, _ => by simp only [VRs]
  | [], _ :: _, h, _ => by cases h
  | _ :: _, [], h, _ => by cases h
  | x :: xs, c :: cs, h, k => by
    simp only [VRs]
    exact ⟨c, cs, rfl, k 0 x c rfl rfl, VRs_all (by simpa using h) (fun i x' c' hx hc => k (i + 1) x' c' (by simpa using hx) (by simpa using hc))⟩
/-- A row of whole numbers in memory. -/
def IsRow (k : IntKind) (w : World) (a : Option Addr) (len cap : Nat) (zs : List Int) : Prop :=
  (a = none ∧ len = 0 ∧ cap = 0 ∧ zs = []) ∨
  ∃ x, a = some x ∧ len ≤ cap ∧ zs.length = len ∧ (∀ i, i < zs.length → w.cell? (x.add i) = some (.int k (zs.getD i 0))) ∧ ∀ n ∈ zs, (Lit.int k n).wf = true
theorem cell_add {w : World} {x : Addr} {i : Nat} {v : Value} (h : w.cell? (x.add i) = some v) : ∃ cs ty fr, w.heap[x.block]? = some (.cells cs ty fr) ∧ cs[x.off + i]? = some v ∧ (i = 0 → x.spot = none) := by
  have hb : (x.add i).block = x.block := by unfold Addr.add; split <;> rfl
  have ho : (x.add i).off = x.off + i := by unfold Addr.add; split <;> simp_all
  have hs : i = 0 → (x.add i).spot = x.spot := by intro e; subst e; rfl
  unfold World.cell? at h
  rw [hb, ho] at h
  cases hw : w.heap[x.block]? with
  | none => rw [hw] at h; cases h
  | some o =>
    rw [hw] at h
    cases o with
    | cells cs ty fr =>
      simp only [] at h
      cases hsp : (x.add i).spot with
      | none => rw [hsp] at h; exact ⟨cs, ty, fr, rfl, by simpa using h, fun e => by rw [← hs e, hsp]⟩
      | some q => rw [hsp] at h; simp at h
    | _ => simp at h
/-- What is frozen of it: nothing, or its block up to its end, of which nothing is told ahead of it. -/
def frozOf (k : IntKind) (a : Option Addr) (zs : List Int) : Nat × List AV := match a with
  | none => (0, [])
  | some x => (x.block, List.replicate x.off .top ++ zs.map (AV.int k))
theorem row_froz {k : IntKind} {w : World} {a : Option Addr} {len cap : Nat} {zs : List Int} (h : IsRow k w a len cap zs) (hne : zs ≠ []) (fz : List (Nat × List AV)) :
    ∃ cs ty fr, w.heap[(frozOf k a zs).1]? = some (.cells cs ty fr) ∧ (frozOf k a zs).2.length ≤ cs.size ∧ VRs (mpOf fz) (frozOf k a zs).2 (cs.toList.take (frozOf k a zs).2.length) := by
  rcases h with ⟨_, _, _, rfl⟩ | ⟨x, rfl, hl, hz, hc, hw⟩
  · exact absurd rfl hne
  · have hpos : 0 < zs.length := List.length_pos_iff.2 hne
    obtain ⟨cs, ty, fr, hb, h0, -⟩ := cell_add (hc (zs.length - 1) (by omega))
    have hsz : x.off + (zs.length - 1) < cs.size := by
      rcases Nat.lt_or_ge (x.off + (zs.length - 1)) cs.size with h | h
      · exact h
      · rw [Array.getElem?_eq_none h] at h0; cases h0
    refine ⟨cs, ty, fr, hb, by simp only [frozOf, List.length_append, List.length_replicate, List.length_map]; omega, ?_⟩
    refine VRs_all (by simp only [frozOf, List.length_append, List.length_replicate, List.length_map, List.length_take, Array.length_toList]; omega) ?_
    intro i v c hv hcv
    simp only [frozOf] at hv hcv
    by_cases hi : i < x.off
    · rw [List.getElem?_append_left (by simpa using hi)] at hv
      rw [List.getElem?_replicate, if_pos hi] at hv
      cases hv
      simp only [VR]
    · rw [List.getElem?_append_right (by simpa using Nat.le_of_not_lt hi), List.length_replicate, List.getElem?_map] at hv
      cases hz' : zs[i - x.off]? with
      | none => rw [hz'] at hv; cases hv
      | some n =>
        rw [hz'] at hv
        cases hv
        have hlt : i - x.off < zs.length := (List.getElem?_eq_some_iff.1 hz').1
        obtain ⟨cs', ty', fr', hb', h1, -⟩ := cell_add (hc (i - x.off) hlt)
        rw [hb] at hb'
        cases hb'
        rw [show x.off + (i - x.off) = i from by omega] at h1
        rw [List.getElem?_take_of_lt (by simp only [List.length_append, List.length_replicate, List.length_map]; omega), Array.getElem?_toList, h1] at hcv
        cases hcv
        simp only [VR]
        rw [List.getD_eq_getElem?_getD, hz']
        rfl
theorem row_VR {k : IntKind} {w : World} {a : Option Addr} {len cap : Nat} {zs : List Int} (h : IsRow k w a len cap zs) (fz : List (Nat × List AV)) (id : Nat) (hid : zs ≠ [] → fz[id]? = some (frozOf k a zs)) : VR (mpOf fz) (.vec zs.length 1 (zs.map (AV.int k))) (.slice a len cap) := by
  simp only [VR]
  refine ⟨by simp, a, cap, ?_, ?_, ?_, ?_⟩
  · rcases h with ⟨_, rfl, _, rfl⟩ | ⟨x, _, _, hz, _, _⟩
    · rfl
    · rw [hz]
  · rcases h with ⟨_, rfl, rfl, rfl⟩ | ⟨x, _, hl, hz, _, _⟩
    · exact Nat.le_refl _
    · omega
  · intro ha
    rcases h with ⟨_, rfl, rfl, rfl⟩ | ⟨x, hx, _, _, _, _⟩
    · exact ⟨rfl, rfl⟩
    · rw [hx] at ha; cases ha
  · intro hpos
    have hne : zs ≠ [] := List.length_pos_iff.1 hpos
    have hf := hid hne
    rcases h with ⟨_, _, _, rfl⟩ | ⟨x, rfl, hl, hz, hc, hw⟩
    · exact absurd rfl hne
    · obtain ⟨cs, ty, fr, hb, h0, hsp⟩ := cell_add (hc 0 hpos)
      have hspot := hsp rfl
      refine ⟨id, x.block, x.off, _, hf, ?_, ?_, ?_⟩
      · cases x; simp only at hspot; rw [hspot]
      · simp only [Nat.mul_one]
        rw [List.drop_append_of_le_length (by simp), List.drop_of_length_le (by simp), List.nil_append]
        exact List.take_of_length_le (by simp)
      · simp
/-! ### of several rows -/
def fzOf (k : IntKind) (a : Option Addr) (zs : List Int) : List (Nat × List AV) := if zs = [] then [] else [frozOf k a zs]
theorem fzOf_mem {k : IntKind} {a : Option Addr} {zs : List Int} {p : Nat × List AV} (h : p ∈ fzOf k a zs) : zs ≠ [] ∧ p = frozOf k a zs := by
  unfold fzOf at h
  split at h
  · cases h
  · exact ⟨by assumption, List.mem_singleton.1 h⟩
theorem fzOf_get {k : IntKind} {a : Option Addr} {zs : List Int} (A B : List (Nat × List AV)) (h : zs ≠ []) : (A ++ (fzOf k a zs ++ B))[A.length]? = some (frozOf k a zs) := by
  unfold fzOf
  rw [if_neg h]
  simp
theorem flat1 (f : Int → AV) : ∀ l : List Int, l.flatMap (fun x => [f x]) = l.map f
  | [] => rfl
  | x :: l => by rw [List.flatMap_cons, flat1 f l]; rfl
theorem row_len {k : IntKind} {w : World} {a : Option Addr} {len cap : Nat} {zs : List Int} (h : IsRow k w a len cap zs) : zs.length = len := by
  rcases h with ⟨_, rfl, _, rfl⟩ | ⟨x, _, _, hz, _, _⟩
  · rfl
  · exact hz
theorem row_wf {k : IntKind} {w : World} {a : Option Addr} {len cap : Nat} {zs : List Int} (h : IsRow k w a len cap zs) : ∀ n ∈ zs, (Lit.int k n).wf = true := by
  rcases h with ⟨_, _, _, rfl⟩ | ⟨x, _, _, _, _, hw⟩
  · intro n hn; cases hn
  · exact hw
section
variable {H : Type} {enc : TypeId × Value → H} {P : Program} {w : World} {base : Nat} {held : Bool}
theorem row_open {t e : TypeId} {k : IntKind} {a : Option Addr} {len cap : Nat} {d : DataW H} {ps : List MemPlace} (ht : P.underlying t = some (.slice e)) (he : P.underlying e = some (.int k)) (hc : P.cellsOf e = 1)
    (h : DataW.Trod enc P w base (fun _ => true) held t (.slice a len cap) d ps) : ∃ zs, IsRow k w a len cap zs := by
  obtain ⟨fuel, hf⟩ := h
  rcases open_ints ht he hc hf with ⟨hcs, _⟩ | ⟨x, l, c, zs, hcs, _, hl, hm, hz, _, hcell, hwz⟩
  · simp [Value.cells] at hcs
    obtain ⟨rfl, rfl, rfl⟩ := hcs
    exact ⟨[], .inl ⟨rfl, rfl, rfl, rfl⟩⟩
  · simp [Value.cells] at hcs
    obtain ⟨rfl, rfl, rfl⟩ := hcs
    have hz' : zs.length = cap := by simpa using hz
    refine ⟨zs.take len, .inr ⟨_, rfl, hl, by rw [List.length_take]; omega, ?_, fun n hn => hwz n (List.mem_of_mem_take hn)⟩⟩
    intro i hi
    rw [List.length_take] at hi
    rw [hcell i (by omega), List.getD_eq_getElem?_getD, List.getD_eq_getElem?_getD, List.getElem?_take_of_lt (by omega)]
theorem row_sized {t e : TypeId} {k : IntKind} {a : Option Addr} {len cap : Nat} {d : DataW H} {ps : List MemPlace} {ts : List TypeId} {ds : List (DataW H)} {j : Nat}
    (hsz : (DataW.weightsEach P ts ds).all (· ≤ reachBytes) = true) (ht : ts[j]? = some t) (hd : ds[j]? = some d) (hu : P.underlying t = some (.slice e)) (he : P.underlying e = some (.int k)) (hc : P.cellsOf e = 1) {B : Nat} (hB : P.bytesOf e = B)
    (h : DataW.Trod enc P w base (fun _ => true) held t (.slice a len cap) d ps) : len * B ≤ 140737488351232 := by
  obtain ⟨fuel, hf⟩ := h
  rcases open_ints hu he hc hf with ⟨hcs, _⟩ | ⟨x, l, c, zs, hcs, _, hl, _, hz, hx, _, _⟩
  · simp [Value.cells] at hcs
    obtain ⟨rfl, rfl, rfl⟩ := hcs
    omega
  · simp [Value.cells] at hcs
    obtain ⟨rfl, rfl, rfl⟩ := hcs
    obtain ⟨hx, _⟩ := Prod.mk.inj hx
    subst hx
    have z := sized_slice hsz ht hd hu
    rw [hB] at z
    have hz' : zs.length = cap := by simpa using hz
    have e1 : (lits (H := H) k (zs.take len)).length + (lits (H := H) k (zs.drop len)).length = zs.length := by
      simp only [lits, List.length_map, List.length_take, List.length_drop]; omega
    rw [e1] at z
    exact Nat.le_trans (Nat.mul_le_mul_right _ (by omega)) z
end
end Go.Proofs.Ytfkefelgjbfkjaa.Am
