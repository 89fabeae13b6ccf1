/- Each operation of the abstract machine tells what Go's machine does. First part. -/
import Derived.Test.YtnikdnchoahngaaAm4
import Derived.Laws.Cells
import Derived.Laws.Entries
import Derived.ChangeKeysEq
set_option linter.unusedVariables false
set_option linter.unusedSimpArgs false
namespace Go.Proofs.Ytnikdnchoahngaa.Am
open Go

/-- What a computation of the model comes to, told. -/
def Good (P : Program) (s : Sem Next) (m : Mp) (w : World) (base : Nat) (v : AV) (H' : Hp) : Prop :=
  ∃ m' w', RW m' H' w' base ∧ St m w base m' w' ∧ ((∃ c, s.run P w = .ok (.value c) w' ∧ VR m' v c) ∨ (s.run P w = .ok .skip w' ∧ v = .top))
theorem Good.val {P : Program} {s : Sem Next} {m : Mp} {w : World} {base : Nat} {v : AV} {H : Hp} (c : Value) (hr : s.run P w = .ok (.value c) w) (rw : RW m H w base) (hv : VR m v c) : Good P s m w base v H :=
  ⟨m, w, rw, St.refl _ _ _, .inl ⟨c, hr, hv⟩⟩

theorem mkTi_spec {P : Program} {t : Nat} {i : Ti} (h : mkTi P t = some i) : ∃ j d, P.info? t = some j ∧ P.underlying t = some d ∧ i.size = j.size ∧ i.bytes = j.bytes ∧ i.zero = j.zero.map (fun z => z.cells.toList.map ofVal) ∧ i.kind = Tk.of d ∧
    i.fields = (match d with | .struct fs => fs.toList.map (fun f => (f.offset, f.type)) | _ => []) ∧ i.elem = (match d with | .array _ e => e | .slice e => e | .pointer e => e | _ => 0) ∧ i.len = (match d with | .array n _ => n | _ => 0) ∧ i.flat = flatOf P t d := by
  unfold mkTi at h
  split at h
  · rename_i j d h1 h2
    cases h
    exact ⟨j, d, h1, h2, rfl, rfl, rfl, rfl, rfl, rfl, rfl, rfl⟩
  · cases h
theorem ti_array {P : Program} {t : Nat} {i : Ti} (h : mkTi P t = some i) (hk : i.kind = .array) : P.underlying t = some (.array i.len i.elem) := by
  obtain ⟨j, d, h1, h2, _, _, _, h3, _, h4, h5, _⟩ := mkTi_spec h
  rw [hk] at h3
  cases d <;> simp [Tk.of] at h3
  simp only at h4 h5
  rw [h2, h4, h5]
theorem ti_slice {P : Program} {t : Nat} {i : Ti} (h : mkTi P t = some i) (hk : i.kind = .slice) : P.underlying t = some (.slice i.elem) := by
  obtain ⟨j, d, h1, h2, _, _, _, h3, _, h4, h5, _⟩ := mkTi_spec h
  rw [hk] at h3
  cases d <;> simp [Tk.of] at h3
  simp only at h4
  rw [h2, h4]
theorem ti_pointer {P : Program} {t : Nat} {i : Ti} (h : mkTi P t = some i) (hk : i.kind = .pointer) : P.underlying t = some (.pointer i.elem) := by
  obtain ⟨j, d, h1, h2, _, _, _, h3, _, h4, h5, _⟩ := mkTi_spec h
  rw [hk] at h3
  cases d <;> simp [Tk.of] at h3
  simp only at h4
  rw [h2, h4]
theorem ti_string {P : Program} {t : Nat} {i : Ti} (h : mkTi P t = some i) (hk : i.kind = .string) : P.underlying t = some .string := by
  obtain ⟨j, d, h1, h2, _, _, _, h3, _⟩ := mkTi_spec h
  rw [hk] at h3
  cases d <;> simp [Tk.of] at h3
  exact h2
theorem ti_bool {P : Program} {t : Nat} {i : Ti} (h : mkTi P t = some i) (hk : i.kind = .bool) : P.underlying t = some .bool := by
  obtain ⟨j, d, h1, h2, _, _, _, h3, _⟩ := mkTi_spec h
  rw [hk] at h3
  cases d <;> simp [Tk.of] at h3
  exact h2
theorem ti_int {P : Program} {t : Nat} {i : Ti} {k : IntKind} (h : mkTi P t = some i) (hk : i.kind = .int k) : P.underlying t = some (.int k) := by
  obtain ⟨j, d, h1, h2, _, _, _, h3, _⟩ := mkTi_spec h
  rw [hk] at h3
  cases d <;> simp [Tk.of] at h3
  rw [h2, h3]
theorem ti_struct {P : Program} {t : Nat} {i : Ti} (h : mkTi P t = some i) (hk : i.kind = .struct) : ∃ fs, P.underlying t = some (.struct fs) ∧ i.fields = fs.toList.map (fun f => (f.offset, f.type)) := by
  obtain ⟨j, d, h1, h2, _, _, _, h3, h4, _⟩ := mkTi_spec h
  rw [hk] at h3
  cases d <;> simp [Tk.of] at h3
  exact ⟨_, h2, h4⟩
theorem ti_iface {P : Program} {t : Nat} {i : Ti} (h : mkTi P t = some i) : (i.kind = .iface → ∃ ms, P.underlying t = some (.interface ms)) ∧ ((∀ ms, P.underlying t ≠ some (.interface ms)) ∨ i.kind = .iface) := by
  obtain ⟨j, d, h1, h2, _, _, _, h3, _⟩ := mkTi_spec h
  constructor
  · intro hk
    rw [hk] at h3
    cases d <;> simp [Tk.of] at h3
    exact ⟨_, h2⟩
  · cases d <;> first | (right; exact h3) | (left; intro ms e; rw [h2] at e; cases e)
theorem ti_size {P : Program} {t : Nat} {i : Ti} (h : mkTi P t = some i) (w : World) : (Go.sizeOf t).run P w = .ok i.size w := by
  obtain ⟨j, d, h1, h2, h3, _⟩ := mkTi_spec h
  simp [Go.sizeOf, typeInfo, h1, h3]
theorem ti_info {P : Program} {t : Nat} {i : Ti} (h : mkTi P t = some i) (w : World) : ∃ j, (typeInfo t).run P w = .ok j w ∧ j.size = i.size ∧ j.bytes = i.bytes ∧ i.zero = j.zero.map (fun z => z.cells.toList.map ofVal) := by
  obtain ⟨j, d, h1, h2, h3, h4, h5, _⟩ := mkTi_spec h
  exact ⟨j, by simp [typeInfo, h1], h3.symm, h4.symm, h5⟩
theorem ti_zero {P : Program} {t : Nat} {i : Ti} (h : mkTi P t = some i) {z : List AV} (hz : i.zero = some z) (w : World) : ∃ c, (zeroValue t).run P w = .ok c w ∧ z = c.cells.toList.map ofVal := by
  obtain ⟨j, d, h1, h2, h3, h4, h5, _⟩ := mkTi_spec h
  rw [hz] at h5
  cases hj : j.zero with
  | none => rw [hj] at h5; cases h5
  | some c =>
    rw [hj] at h5
    refine ⟨c, by simp [zeroValue, typeInfo, h1, hj], by simpa using h5⟩
theorem ti_agg {P : Program} {t : Nat} {i : Ti} (h : mkTi P t = some i) (w : World) : (isAgg t).run P w = .ok i.kind.isAgg w := by
  obtain ⟨j, d, h1, h2, _, _, _, h3, _⟩ := mkTi_spec h
  rw [h3]
  cases d <;> simp [isAgg, run_underlying h2, Tk.of, Tk.isAgg]
theorem VRs_ofVal (m : Mp) : ∀ l : List Value, VRs m (l.map ofVal) l
  | [] => by simp [VRs]
  | x :: l => by simp only [List.map_cons, VRs]; exact ⟨x, l, rfl, ofVal_ok m x, VRs_ofVal m l⟩

theorem opnd_ok {m : Mp} {env : Env} {a : Act} (h : FR m env a.tmps) (x : Operand) : VR m (opnd env x) (a.eval x) := by
  cases x with
  | tmp t => exact h.getD t
  | const v => exact ofVal_ok m v
  | global g => simp [opnd, VR]
  | func f => simp only [opnd, Act.eval, VR]; exact ⟨#[], #[], rfl, by simp [VRs], by simp [VRs]⟩
theorem opnds_ok {m : Mp} {env : Env} {a : Act} (h : FR m env a.tmps) : ∀ l : List Operand, VRs m (l.map (opnd env)) (l.map a.eval)
  | [] => by simp [VRs]
  | x :: l => by simp only [List.map_cons, VRs]; exact ⟨_, _, rfl, opnd_ok h x, opnds_ok h l⟩

theorem cellsOf_ok {m : Mp} {x : AV} {c : Value} (h : VR m x c) (hx : x.is = true) : VRs m (cellsOf x) c.cells.toList := by
  cases x <;> simp only [VR] at h <;> try (simp [AV.is] at hx; done)
  case agg xs => obtain ⟨ys, rfl, h2⟩ := h; simpa [cellsOf, Value.cells] using h2
  all_goals
    first
      | (subst h; simp [cellsOf, Value.cells, VRs, VR]; done)
      | (obtain ⟨ys, rfl, h2⟩ := h; simp only [cellsOf, Value.cells, VRs, VR]; exact ⟨_, _, rfl, ⟨ys, rfl, h2⟩, rfl⟩)
      | (obtain ⟨ys, zs, rfl, h2⟩ := h; simp only [cellsOf, Value.cells, VRs, VR]; exact ⟨_, _, rfl, ⟨ys, zs, rfl, h2⟩, rfl⟩)
      | (obtain ⟨B, N, h1, rfl⟩ := h; simp only [cellsOf, Value.cells, VRs, VR]; exact ⟨_, _, rfl, ⟨B, N, h1, rfl⟩, rfl⟩)
      | (obtain ⟨B, N, cap, h1, h2, h3, h4, rfl⟩ := h; simp only [cellsOf, Value.cells, VRs, VR]; exact ⟨_, _, rfl, ⟨B, N, cap, h1, h2, h3, h4, rfl⟩, rfl⟩)
theorem one1_ok {m : Mp} {x : AV} {c : Value} (h : VR m x c) (hx : one1 x = true) : c.oneCell' = true := by
  cases x <;> simp only [VR] at h <;> try (simp [one1] at hx; done)
  all_goals
    first
      | (subst h; rfl)
      | (obtain ⟨ys, rfl, h2⟩ := h; rfl)
      | (obtain ⟨ys, zs, rfl, h2⟩ := h; rfl)
      | (obtain ⟨B, N, h1, rfl⟩ := h; rfl)
      | (obtain ⟨B, N, cap, h1, h2, h3, h4, rfl⟩ := h; rfl)
theorem one1s_ok {m : Mp} : ∀ {xs : List AV} {cs : List Value}, VRs m xs cs → xs.all one1 = true → ∀ c ∈ cs, c.oneCell' = true
  | [], cs, h, _ => by simp only [VRs] at h; subst h; simp
  | x :: xs, cs, h, k => by
    simp only [VRs] at h
    obtain ⟨y, ys, rfl, h1, h2⟩ := h
    simp only [List.all_cons, Bool.and_eq_true] at k
    intro c hc
    rcases List.mem_cons.1 hc with rfl | hc
    · exact one1_ok h1 k.1
    · exact one1s_ok h2 k.2 c hc

/-- A new block: its value's address. -/
theorem alloc1_ok {m : Mp} {H H' : Hp} {w : World} {base : Nat} {cells : List AV} {v : AV} (h : alloc1 H cells = some (v, H')) (rw : RW m H w base) (cs : Array Value) (ty : TypeId) (fr : Nat × Nat) (hf : Free fr cs.size) (hl : cells.length ≤ cs.size)
    (hrel : VRs m cells (cs.toList.take cells.length)) :
    v = .ptr H.next cells.length 0 ∧ ∃ m', m' H.next cells.length = some (w.heap.size, cs.size) ∧ RW m' H' (wnew w (.cells cs ty fr)) base ∧ St m w base m' (wnew w (.cells cs ty fr)) := by
  unfold alloc1 at h
  split at h
  · rename_i hlow
    cases h
    obtain ⟨h1, h2⟩ := rw.alloc hlow cells cs ty fr hf hl hrel
    exact ⟨rfl, _, Mp.add_same _ _ _ _, h1, h2⟩
  · cases h
theorem free0 (n : Nat) : Free (0, 0) n := fun i _ => by simp

/-- What is read: the cells lie there. -/
theorem rd_ok {m : Mp} {H : Hp} {w : World} {base : Nat} {r v off n B N : Nat} {xs : List AV} (h : rd H r v off n = some xs) (rw : RW m H w base) (hm : m r v = some (B, N)) :
    xs.length = n ∧ ∃ l : List Value, VRs m xs l ∧ ∀ (j : Nat) (c : Value), l[j]? = some c → w.cell? ⟨B, off + j, none⟩ = some c := by
  unfold rd at h
  cases hb : H.t.get r with
  | none => simp [hb] at h
  | some b =>
    simp only [hb] at h
    cases hcc : (Nat.ble b.minv v && Nat.ble (off + n) v) with
    | true =>
      rw [hcc] at h
      have hc : b.minv ≤ v ∧ off + n ≤ v := by simpa [Bool.and_eq_true] using hcc
      cases h
      obtain ⟨b0, hb0, hv, hB, _⟩ := rw.dom _ _ _ _ hm
      rw [hb] at hb0; cases hb0
      obtain ⟨cs, ty, fr, h1, h2, h3, h4, h5⟩ := rw.blk _ _ _ _ _ hb hm hc.1 hv
      have hlen : ((b.cells.drop off).take n).length = n := by simp; omega
      refine ⟨hlen, ((cs.toList.take v).drop off).take n, ?_, ?_⟩
      · have := VRs.take n (VRs.drop off h5)
        rw [show (b.cells.drop off).take n = ((b.cells.take v).drop off).take n from ?_]
        · exact this
        · rw [List.drop_take, List.take_take, Nat.min_eq_left (by omega)]
      · intro j c hj
        rw [cell_of w B _ cs ty fr h1]
        rw [List.getElem?_take] at hj
        split at hj
        · rename_i hjn
          rw [List.getElem?_drop, List.getElem?_take] at hj
          split at hj
          · simpa using hj
          · cases hj
        · cases hj
    | false => rw [hcc] at h; cases h
theorem loadCells_ok {P : Program} {w : World} {B off : Nat} {l : List Value} (h : ∀ (j : Nat) (c : Value), l[j]? = some c → w.cell? ⟨B, off + j, none⟩ = some c) : (loadCells ⟨B, off, none⟩ l.length).run P w = .ok l.toArray w :=
  run_loadCells_list w _ _ (fun j v hj => by rw [addr_add]; exact h j v hj)
theorem VRs.len {m : Mp} {xs : List AV} {cs : List Value} (h : VRs m xs cs) : cs.length = xs.length := (VRs.length h).symm

/-- What is written. -/
theorem wr_ok {P : Program} {m : Mp} {H H' : Hp} {w : World} {base : Nat} {r v off B N : Nat} {vs : List AV} (h : wr H r v off vs = some H') (rw : RW m H w base) (hm : m r v = some (B, N)) {us : List Value} (hu : VRs m vs us) :
    ∃ w', (storeCells ⟨B, off, none⟩ us).run P w = .ok () w' ∧ RW m H' w' base ∧ St m w base m w' := by
  unfold wr at h
  cases hb : H.t.get r with
  | none => simp [hb] at h
  | some b =>
    simp only [hb] at h
    split at h
    · rename_i hc
      obtain ⟨hro, rfl, hmin, hoff, hall, hne⟩ := hc
      cases h
      obtain ⟨b0, hb0, hv, hB, _⟩ := rw.dom _ _ _ _ hm
      rw [hb] at hb0; cases hb0
      obtain ⟨cs, ty, fr, h1, h2, h3, h4, h5⟩ := rw.blk _ _ _ _ _ hb hm hmin hv
      have hlen := VRs.len hu
      have hune : us ≠ [] := by
        intro e; subst e
        cases vs with
        | nil => simp at hne
        | cons => simp at hlen
      have hst := run_storeCells_wset P B off ty fr us 0 cs w h1 (by omega) (by rw [h2]; exact h4 hro) (one1s_ok hu hall)
      rw [if_neg hune, Nat.add_zero] at hst
      rw [List.take_of_length_le (Nat.le_refl _)] at h5
      obtain ⟨r1, r2⟩ := rw.upd hb hro hm hmin h1 (cs' := putA cs off us) (putA_size _ _ _) (cells' := putL b.cells off vs) (putL_length _ _ _) (VRs.put off _ h5 hu)
      exact ⟨_, hst, r1, r2⟩
    · cases h
end Go.Proofs.Ytnikdnchoahngaa.Am
