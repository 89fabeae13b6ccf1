/- Each operation of the abstract machine tells what Go's machine does. First part. -/
import Derived.Test.YtfkefelgjbfkjaaBmA
import Derived.Laws.Cells
import Derived.Laws.Entries
import Derived.ChangeKeysEq
import Derived.Laws.StructEq
import Derived.Laws.BytesArg
set_option linter.unusedVariables false
set_option linter.unusedSimpArgs false
namespace Go.Proofs.Ytfkefelgjbfkjaa.Am
open Go

/-- What a computation of the model comes to, told. -/
def Good (P : Program) (s : Sem Next) (m : Mp) (w : World) (base : Nat) (v : AV) (H' : Hp) : Prop :=
  ∃ m' w', RW m' H' w' base ∧ St m w base m' w' ∧ ((∃ c, s.run P w = .ok (.value c) w' ∧ VR m' v c) ∨ (s.run P w = .ok .skip w' ∧ v = .top))
theorem Good.val {P : Program} {s : Sem Next} {m : Mp} {w : World} {base : Nat} {v : AV} {H : Hp} (c : Value) (hr : s.run P w = .ok (.value c) w) (rw : RW m H w base) (hv : VR m v c) : Good P s m w base v H :=
  ⟨m, w, rw, St.refl _ _ _, .inl ⟨c, hr, hv⟩⟩

theorem mkTi_spec {P : Program} {t : Nat} {i : Ti} (h : mkTi P t = some i) : ∃ j d, P.info? t = some j ∧ P.underlying t = some d ∧ i.size = j.size ∧ i.bytes = j.bytes ∧ i.zero = j.zero.map (fun z => z.cells.toList.map ofVal) ∧ i.kind = Tk.of d ∧
    i.fields = (match d with | .struct fs => fs.toList.map (fun f => (f.offset, f.type)) | _ => []) ∧ i.elem = (match d with | .array _ e => e | .slice e => e | .pointer e => e | _ => 0) ∧ i.len = (match d with | .array n _ => n | _ => 0) ∧ i.flat = flatOf P t d := by
  unfold mkTi at h
  split at h
  · rename_i j d h1 h2
    cases h
    exact ⟨j, d, h1, h2, rfl, rfl, rfl, rfl, rfl, rfl, rfl, rfl⟩
  · cases h
theorem ti_array {P : Program} {t : Nat} {i : Ti} (h : mkTi P t = some i) (hk : i.kind = .array) : P.underlying t = some (.array i.len i.elem) := by
  obtain ⟨j, d, h1, h2, _, _, _, h3, _, h4, h5, _⟩ := mkTi_spec h
  rw [hk] at h3
  cases d <;> simp [Tk.of] at h3
  simp only at h4 h5
  rw [h2, h4, h5]
theorem ti_slice {P : Program} {t : Nat} {i : Ti} (h : mkTi P t = some i) (hk : i.kind = .slice) : P.underlying t = some (.slice i.elem) := by
  obtain ⟨j, d, h1, h2, _, _, _, h3, _, h4, h5, _⟩ := mkTi_spec h
  rw [hk] at h3
  cases d <;> simp [Tk.of] at h3
  simp only at h4
  rw [h2, h4]
theorem ti_pointer {P : Program} {t : Nat} {i : Ti} (h : mkTi P t = some i) (hk : i.kind = .pointer) : P.underlying t = some (.pointer i.elem) := by
  obtain ⟨j, d, h1, h2, _, _, _, h3, _, h4, h5, _⟩ := mkTi_spec h
  rw [hk] at h3
  cases d <;> simp [Tk.of] at h3
  simp only at h4
  rw [h2, h4]
theorem ti_string {P : Program} {t : Nat} {i : Ti} (h : mkTi P t = some i) (hk : i.kind = .string) : P.underlying t = some .string := by
  obtain ⟨j, d, h1, h2, _, _, _, h3, _⟩ := mkTi_spec h
  rw [hk] at h3
  cases d <;> simp [Tk.of] at h3
  exact h2
theorem ti_bool {P : Program} {t : Nat} {i : Ti} (h : mkTi P t = some i) (hk : i.kind = .bool) : P.underlying t = some .bool := by
  obtain ⟨j, d, h1, h2, _, _, _, h3, _⟩ := mkTi_spec h
  rw [hk] at h3
  cases d <;> simp [Tk.of] at h3
  exact h2
theorem ti_int {P : Program} {t : Nat} {i : Ti} {k : IntKind} (h : mkTi P t = some i) (hk : i.kind = .int k) : P.underlying t = some (.int k) := by
  obtain ⟨j, d, h1, h2, _, _, _, h3, _⟩ := mkTi_spec h
  rw [hk] at h3
  cases d <;> simp [Tk.of] at h3
  rw [h2, h3]
theorem ti_struct {P : Program} {t : Nat} {i : Ti} (h : mkTi P t = some i) (hk : i.kind = .struct) : ∃ fs, P.underlying t = some (.struct fs) ∧ i.fields = fs.toList.map (fun f => (f.offset, f.type)) := by
  obtain ⟨j, d, h1, h2, _, _, _, h3, h4, _⟩ := mkTi_spec h
  rw [hk] at h3
  cases d <;> simp [Tk.of] at h3
  exact ⟨_, h2, h4⟩
theorem ti_iface {P : Program} {t : Nat} {i : Ti} (h : mkTi P t = some i) : (i.kind = .iface → ∃ ms, P.underlying t = some (.interface ms)) ∧ ((∀ ms, P.underlying t ≠ some (.interface ms)) ∨ i.kind = .iface) := by
  obtain ⟨j, d, h1, h2, _, _, _, h3, _⟩ := mkTi_spec h
  constructor
  · intro hk
    rw [hk] at h3
    cases d <;> simp [Tk.of] at h3
    exact ⟨_, h2⟩
  · cases d <;> first | (right; exact h3) | (left; intro ms e; rw [h2] at e; cases e)
theorem ti_size {P : Program} {t : Nat} {i : Ti} (h : mkTi P t = some i) (w : World) : (Go.sizeOf t).run P w = .ok i.size w := by
  obtain ⟨j, d, h1, h2, h3, _⟩ := mkTi_spec h
  simp [Go.sizeOf, typeInfo, h1, h3]
theorem ti_info {P : Program} {t : Nat} {i : Ti} (h : mkTi P t = some i) (w : World) : ∃ j, (typeInfo t).run P w = .ok j w ∧ j.size = i.size ∧ j.bytes = i.bytes ∧ i.zero = j.zero.map (fun z => z.cells.toList.map ofVal) := by
  obtain ⟨j, d, h1, h2, h3, h4, h5, _⟩ := mkTi_spec h
  exact ⟨j, by simp [typeInfo, h1], h3.symm, h4.symm, h5⟩
theorem ti_zero {P : Program} {t : Nat} {i : Ti} (h : mkTi P t = some i) {z : List AV} (hz : i.zero = some z) (w : World) : ∃ c, (zeroValue t).run P w = .ok c w ∧ z = c.cells.toList.map ofVal := by
  obtain ⟨j, d, h1, h2, h3, h4, h5, _⟩ := mkTi_spec h
  rw [hz] at h5
  cases hj : j.zero with
  | none => rw [hj] at h5; cases h5
  | some c =>
    rw [hj] at h5
    refine ⟨c, by simp [zeroValue, typeInfo, h1, hj], by simpa using h5⟩
theorem ti_agg {P : Program} {t : Nat} {i : Ti} (h : mkTi P t = some i) (w : World) : (isAgg t).run P w = .ok i.kind.isAgg w := by
  obtain ⟨j, d, h1, h2, _, _, _, h3, _⟩ := mkTi_spec h
  rw [h3]
  cases d <;> simp [isAgg, run_underlying h2, Tk.of, Tk.isAgg]
theorem VRs_ofVal (m : Mp) : ∀ l : List Value, VRs m (l.map ofVal) l
  | [] => by simp [VRs]
  | x :: l => by simp only [List.map_cons, VRs]; exact ⟨x, l, rfl, ofVal_ok m x, VRs_ofVal m l⟩

theorem opnd_ok {m : Mp} {env : Env} {a : Act} (h : FR m env a.tmps) (x : Operand) : VR m (opnd env x) (a.eval x) := by
  cases x with
  | tmp t => exact h.getD t
  | const v => exact ofVal_ok m v
  | global g => simp [opnd, VR]
  | func f => simp only [opnd, Act.eval, VR]; exact ⟨#[], #[], rfl, by simp [VRs], by simp [VRs]⟩
theorem opnds_ok {m : Mp} {env : Env} {a : Act} (h : FR m env a.tmps) : ∀ l : List Operand, VRs m (l.map (opnd env)) (l.map a.eval)
  | [] => by simp [VRs]
  | x :: l => by simp only [List.map_cons, VRs]; exact ⟨_, _, rfl, opnd_ok h x, opnds_ok h l⟩

theorem cellsOf_ok {m : Mp} {x : AV} {c : Value} (h : VR m x c) (hx : x.is = true) : VRs m (cellsOf x) c.cells.toList := by
  cases x <;> simp only [VR] at h <;> try (simp [AV.is] at hx; done)
  case agg xs => obtain ⟨ys, rfl, h2⟩ := h; simpa [cellsOf, Value.cells] using h2
  case own r len sz => rcases h with ⟨h0, rfl⟩ | ⟨B, N, cap, h1, h2, h3, rfl⟩ <;> simp only [cellsOf, Value.cells, VRs, VR] <;> first | exact ⟨_, _, rfl, .inl ⟨h0, rfl⟩, rfl⟩ | exact ⟨_, _, rfl, .inr ⟨B, N, cap, h1, h2, h3, rfl⟩, rfl⟩
  all_goals
    first
      | (subst h; simp [cellsOf, Value.cells, VRs, VR]; done)
      | (obtain ⟨ys, rfl, h2⟩ := h; simp only [cellsOf, Value.cells, VRs, VR]; exact ⟨_, _, rfl, ⟨ys, rfl, h2⟩, rfl⟩)
      | (obtain ⟨ys, zs, rfl, h2⟩ := h; simp only [cellsOf, Value.cells, VRs, VR]; exact ⟨_, _, rfl, ⟨ys, zs, rfl, h2⟩, rfl⟩)
      | (obtain ⟨B, N, h1, rfl⟩ := h; simp only [cellsOf, Value.cells, VRs, VR]; exact ⟨_, _, rfl, ⟨B, N, h1, rfl⟩, rfl⟩)
      | (obtain ⟨B, N, cap, h1, h2, h3, h4, rfl⟩ := h; simp only [cellsOf, Value.cells, VRs, VR]; exact ⟨_, _, rfl, ⟨B, N, cap, h1, h2, h3, h4, rfl⟩, rfl⟩)
      | (obtain ⟨h0, a, cap, rfl, hr⟩ := h; simp only [cellsOf, Value.cells, VRs, VR]; exact ⟨_, _, rfl, ⟨h0, a, cap, rfl, hr⟩, rfl⟩)
      | (obtain ⟨i, B, off, all, h1, rfl, hr⟩ := h; simp only [cellsOf, Value.cells, VRs, VR]; exact ⟨_, _, rfl, ⟨i, B, off, all, h1, rfl, hr⟩, rfl⟩)
theorem one1_ok {m : Mp} {x : AV} {c : Value} (h : VR m x c) (hx : one1 x = true) : c.oneCell' = true := by
  cases x <;> simp only [VR] at h <;> try (simp [one1] at hx; done)
  case own r len sz => rcases h with ⟨h0, rfl⟩ | ⟨B, N, cap, h1, h2, h3, rfl⟩ <;> rfl
  all_goals
    first
      | (subst h; rfl)
      | (obtain ⟨ys, rfl, h2⟩ := h; rfl)
      | (obtain ⟨ys, zs, rfl, h2⟩ := h; rfl)
      | (obtain ⟨B, N, h1, rfl⟩ := h; rfl)
      | (obtain ⟨B, N, cap, h1, h2, h3, h4, rfl⟩ := h; rfl)
      | (obtain ⟨h0, a, cap, rfl, hr⟩ := h; rfl)
      | (obtain ⟨i, B, off, all, h1, rfl, hr⟩ := h; rfl)
theorem one1s_ok {m : Mp} : ∀ {xs : List AV} {cs : List Value}, VRs m xs cs → xs.all one1 = true → ∀ c ∈ cs, c.oneCell' = true
  | [], cs, h, _ => by simp only [VRs] at h; subst h; simp
  | x :: xs, cs, h, k => by
    simp only [VRs] at h
    obtain ⟨y, ys, rfl, h1, h2⟩ := h
    simp only [List.all_cons, Bool.and_eq_true] at k
    intro c hc
    rcases List.mem_cons.1 hc with rfl | hc
    · exact one1_ok h1 k.1
    · exact one1s_ok h2 k.2 c hc

/-- A new block: its value's address. -/
theorem alloc1_ok {m : Mp} {H H' : Hp} {w : World} {base : Nat} {cells : List AV} {v : AV} (h : alloc1 H cells = some (v, H')) (rw : RW m H w base) (cs : Array Value) (ty : TypeId) (fr : Nat × Nat) (hf : Free fr cs.size) (hl : cells.length ≤ cs.size)
    (hrel : VRs m cells (cs.toList.take cells.length)) :
    v = .ptr H.next cells.length 0 ∧ ∃ m', m' H.next cells.length = some (w.heap.size, cs.size) ∧ RW m' H' (wnew w (.cells cs ty fr)) base ∧ St m w base m' (wnew w (.cells cs ty fr)) := by
  unfold alloc1 at h
  split at h
  · rename_i hlow
    cases h
    obtain ⟨h1, h2⟩ := rw.alloc hlow cells cs ty fr hf hl hrel
    exact ⟨rfl, _, Mp.add_same _ _ _ _, h1, h2⟩
  · cases h
theorem free0 (n : Nat) : Free (0, 0) n := fun i _ => by simp

/-- What is read: the cells lie there. -/
theorem rd_ok {m : Mp} {H : Hp} {w : World} {base : Nat} {r v off n B N : Nat} {xs : List AV} (h : rd H r v off n = some xs) (rw : RW m H w base) (hm : m r v = some (B, N)) :
    xs.length = n ∧ ∃ l : List Value, VRs m xs l ∧ ∀ (j : Nat) (c : Value), l[j]? = some c → w.cell? ⟨B, off + j, none⟩ = some c := by
  unfold rd at h
  cases hb : H.t.get r with
  | none => simp [hb] at h
  | some b =>
    simp only [hb] at h
    cases hcc : (Nat.ble b.minv v && Nat.ble (off + n) v) with
    | true =>
      rw [hcc] at h
      have hc : b.minv ≤ v ∧ off + n ≤ v := by simpa [Bool.and_eq_true] using hcc
      cases h
      obtain ⟨b0, hb0, hv, hB, _⟩ := rw.dom _ _ _ _ hm
      rw [hb] at hb0; cases hb0
      obtain ⟨cs, ty, fr, h1, h2, h3, h4, h5⟩ := rw.blk _ _ _ _ _ hb hm hc.1 hv
      have hlen : ((b.cells.drop off).take n).length = n := by simp; omega
      refine ⟨hlen, ((cs.toList.take v).drop off).take n, ?_, ?_⟩
      · have := VRs.take n (VRs.drop off h5)
        rw [show (b.cells.drop off).take n = ((b.cells.take v).drop off).take n from ?_]
        · exact this
        · rw [List.drop_take, List.take_take, Nat.min_eq_left (by omega)]
      · intro j c hj
        rw [cell_of w B _ cs ty fr h1]
        rw [List.getElem?_take] at hj
        split at hj
        · rename_i hjn
          rw [List.getElem?_drop, List.getElem?_take] at hj
          split at hj
          · simpa using hj
          · cases hj
        · cases hj
    | false => rw [hcc] at h; cases h
/-- A pointer into frozen memory: the cells lie there. -/
theorem vptr_ok {m : Mp} {H : Hp} {w : World} {base : Nat} {cells : List AV} {c : Value} (h : VR m (.vptr cells) c) (rw : RW m H w base) :
    ∃ B off, c = .pointer (some ⟨B, off, none⟩) ∧ ∃ l : List Value, VRs m cells l ∧ ∀ (j : Nat) (d : Value), l[j]? = some d → w.cell? ⟨B, off + j, none⟩ = some d := by
  simp only [VR] at h
  obtain ⟨i, B, off, all, hi, rfl, hc, hl⟩ := h
  obtain ⟨cs, ty, fr, h1, h2, h3⟩ := rw.frz _ _ _ hi
  have h3 := VRs.mono (still_sub m) _ _ h3
  refine ⟨B, off, rfl, ((cs.toList.take all.length).drop off).take cells.length, ?_, ?_⟩
  · rw [← hc, hc]
    have := VRs.take cells.length (VRs.drop off h3)
    rw [hc] at this
    exact this
  · intro j d hj
    rw [cell_of w B _ cs ty fr h1]
    rw [List.getElem?_take] at hj
    split at hj
    · rw [List.getElem?_drop, List.getElem?_take] at hj
      split at hj
      · simpa using hj
      · cases hj
    · cases hj
theorem rd_len0 {H : Hp} {r v off n : Nat} {xs : List AV} (h : rd H r v off n = some xs) (hn : n = 0) : xs = [] := by
  subst hn
  unfold rd at h
  split at h
  · rename_i b _
    cases hcc : (Nat.ble b.minv v && Nat.ble (off + 0) v) <;> rw [hcc] at h <;> simp at h
    exact h
  · cases h
theorem loadCells_ok {P : Program} {w : World} {B off : Nat} {l : List Value} (h : ∀ (j : Nat) (c : Value), l[j]? = some c → w.cell? ⟨B, off + j, none⟩ = some c) : (loadCells ⟨B, off, none⟩ l.length).run P w = .ok l.toArray w :=
  run_loadCells_list w _ _ (fun j v hj => by rw [addr_add]; exact h j v hj)
theorem VRs.len {m : Mp} {xs : List AV} {cs : List Value} (h : VRs m xs cs) : cs.length = xs.length := (VRs.length h).symm

/-- What is written. -/
theorem wr_ok {P : Program} {m : Mp} {H H' : Hp} {w : World} {base : Nat} {r v off B N : Nat} {vs : List AV} (h : wr H r v off vs = some H') (rw : RW m H w base) (hm : m r v = some (B, N)) {us : List Value} (hu : VRs m vs us) :
    ∃ w', (storeCells ⟨B, off, none⟩ us).run P w = .ok () w' ∧ RW m H' w' base ∧ St m w base m w' := by
  unfold wr at h
  cases hb : H.t.get r with
  | none => simp [hb] at h
  | some b =>
    simp only [hb] at h
    split at h
    · rename_i hc
      obtain ⟨hro, rfl, hmin, hoff, hall, hne⟩ := hc
      cases h
      obtain ⟨b0, hb0, hv, hB, _⟩ := rw.dom _ _ _ _ hm
      rw [hb] at hb0; cases hb0
      obtain ⟨cs, ty, fr, h1, h2, h3, h4, h5⟩ := rw.blk _ _ _ _ _ hb hm hmin hv
      have hlen := VRs.len hu
      have hune : us ≠ [] := by
        intro e; subst e
        cases vs with
        | nil => simp at hne
        | cons => simp at hlen
      have hst := run_storeCells_wset P B off ty fr us 0 cs w h1 (by omega) (by rw [h2]; exact h4 hro) (one1s_ok hu hall)
      rw [if_neg hune, Nat.add_zero] at hst
      rw [List.take_of_length_le (Nat.le_refl _)] at h5
      obtain ⟨r1, r2⟩ := rw.upd hb hro hm hmin h1 (cs' := putA cs off us) (putA_size _ _ _) (cells' := putL b.cells off vs) (putL_length _ _ _) (VRs.put off _ h5 hu)
      exact ⟨_, hst, r1, r2⟩
    · cases h
end Go.Proofs.Ytfkefelgjbfkjaa.Am

/-! Each operation of the abstract machine tells what Go's machine does. Second part: one law an operation. -/
set_option linter.unusedVariables false
set_option linter.unusedSimpArgs false
namespace Go.Proofs.Ytfkefelgjbfkjaa.Am
open Go

theorem wnew_eq (w : World) (o : Obj) : { w with heap := w.heap.push o } = wnew w o := rfl

theorem Good.alloc {P : Program} {s : Sem Next} {m : Mp} {H H' : Hp} {w : World} {base : Nat} {cells : List AV} {v : AV} (h : alloc1 H cells = some (v, H')) (rw : RW m H w base) (cs : Array Value) (ty : TypeId)
    (hrel : VRs m cells cs.toList) (hr : s.run P w = .ok (.value (.pointer (some ⟨w.heap.size, 0, none⟩))) (wnew w (.cells cs ty (0, 0)))) : Good P s m w base v H' := by
  have hl : cells.length = cs.size := by simpa using VRs.length hrel
  obtain ⟨rfl, m', h1, h2, h3⟩ := alloc1_ok h rw cs ty (0, 0) (free0 _) (by omega) (by rw [List.take_of_length_le (by simp; omega)]; exact hrel)
  refine ⟨m', _, h2, h3, .inl ⟨_, hr, ?_⟩⟩
  simp only [VR]
  exact ⟨_, _, h1, rfl⟩

theorem op_alloc {P : Program} {C : Cx} (hti : ∀ t i, C.ti t = some i → mkTi P t = some i) {m : Mp} {H H' : Hp} {w : World} {base : Nat} {t : Nat} {i : Ti} {z : List AV} {v : AV} (ht : C.ti t = some i) (hz : i.zero = some z) (h : alloc1 H z = some (v, H')) (rw : RW m H w base) :
    Good P (do pure (.value (← Instr.alloc t true (.tuple #[])))) m w base v H' := by
  obtain ⟨c, hc, rfl⟩ := ti_zero (hti _ _ ht) hz w
  refine Good.alloc h rw c.cells t (VRs_ofVal m _) ?_
  simp [Instr.alloc, hc, newVar, newRow, newObj, Sem.run, wnew]

theorem op_box {P : Program} {m : Mp} {H H' : Hp} {w : World} {base : Nat} {t : Nat} {x v : AV} {c : Value} (hx : x.is = true) (hv : VR m x c) (h : alloc1 H (cellsOf x) = some (v, H')) (rw : RW m H w base) :
    Good P (do pure (.value (← Instr.box t c))) m w base v H' := by
  refine Good.alloc h rw c.cells t (cellsOf_ok hv hx) ?_
  simp [Instr.box, newVar, newRow, newObj, Sem.run, wnew]

theorem mkVal_ok {m : Mp} {xs : List AV} {l : List Value} {agg : Bool} {x : AV} (h : mkVal agg xs = some x) (hv : VRs m xs l) : VR m x (if agg then .agg l.toArray else l.getD 0 undef) := by
  unfold mkVal at h
  cases agg with
  | true => simp at h; subst h; simp only [VR, if_true]; exact ⟨l.toArray, rfl, by simpa using hv⟩
  | false =>
    simp only [Bool.false_eq_true, if_false] at h ⊢
    match xs, h with
    | [y], h =>
      cases h
      simp only [VRs] at hv
      obtain ⟨c, cs, rfl, h1, rfl⟩ := hv
      exact h1

theorem op_load_run {P : Program} {C : Cx} (hti : ∀ t i, C.ti t = some i → mkTi P t = some i) {m : Mp} {H : Hp} {w : World} {base : Nat} {t : Nat} {i : Ti} {r v off : Nat} {c : Value} {xs : List AV} {x : AV} (ht : C.ti t = some i) (hp : VR m (.ptr r v off) c) (h : rd H r v off i.size = some xs) (hx : mkVal i.kind.isAgg xs = some x) (rw : RW m H w base) :
    ∃ d, (loadVar t (match c with | .pointer (some b) => b | _ => default)).run P w = .ok d w ∧ VR m x d := by
  simp only [VR] at hp
  obtain ⟨B, N, hm, rfl⟩ := hp
  obtain ⟨hl, l, hv, hc⟩ := rd_ok h rw hm
  have hll := VRs.len hv
  refine ⟨_, ?_, mkVal_ok hx hv⟩
  show (loadVar t ⟨B, off, none⟩).run P w = .ok (if i.kind.isAgg then .agg l.toArray else l.getD 0 undef) w
  unfold loadVar
  simp only [Sem.run_bind, ti_agg (hti _ _ ht) w, Result.andThen_ok]
  cases hk : i.kind.isAgg with
  | true =>
    simp only [if_true, Sem.run_bind, ti_size (hti _ _ ht) w, Result.andThen_ok]
    rw [show i.size = l.length by omega, loadCells_ok hc]
    rfl
  | false =>
    simp only [hk] at hx
    unfold mkVal at hx
    simp only [Bool.false_eq_true, if_false] at hx
    match xs, hx, hl, hll with
    | [y], hx, hl, hll =>
      match l, hll, hc with
      | [u], hll, hc =>
        have := hc 0 u rfl
        simp only [Nat.add_zero] at this
        simp [this]
theorem op_load {P : Program} {C : Cx} (hti : ∀ t i, C.ti t = some i → mkTi P t = some i) {m : Mp} {H : Hp} {w : World} {base : Nat} {t : Nat} {i : Ti} {r v off : Nat} {c : Value} {xs : List AV} {x : AV} (ht : C.ti t = some i) (hp : VR m (.ptr r v off) c) (h : rd H r v off i.size = some xs) (hx : mkVal i.kind.isAgg xs = some x) (rw : RW m H w base) :
    Good P (do pure (.value (← Instr.loadAt t c))) m w base x H := by
  simp only [VR] at hp
  obtain ⟨B, N, hm, rfl⟩ := hp
  obtain ⟨hl, l, hv, hc⟩ := rd_ok h rw hm
  have hll := VRs.len hv
  refine Good.val _ ?_ rw (mkVal_ok hx hv)
  have hload : (loadVar t ⟨B, off, none⟩).run P w = .ok (if i.kind.isAgg then .agg l.toArray else l.getD 0 undef) w := by
    unfold loadVar
    simp only [Sem.run_bind, ti_agg (hti _ _ ht) w, Result.andThen_ok]
    cases hk : i.kind.isAgg with
    | true =>
      simp only [if_true, Sem.run_bind, ti_size (hti _ _ ht) w, Result.andThen_ok]
      rw [show i.size = l.length by omega, loadCells_ok hc]
      rfl
    | false =>
      simp only [hk] at hx
      unfold mkVal at hx
      simp only [Bool.false_eq_true, if_false] at hx
      match xs, hx, hl, hll with
      | [y], hx, hl, hll =>
        match l, hll, hc with
        | [u], hll, hc =>
          have := hc 0 u rfl
          simp only [Nat.add_zero] at this
          simp [this]
  simp [Instr.loadAt, Instr.sureAddr, hload]

theorem op_load_v {P : Program} {C : Cx} (hti : ∀ t i, C.ti t = some i → mkTi P t = some i) {m : Mp} {H : Hp} {w : World} {base : Nat} {t : Nat} {i : Ti} {cells : List AV} {c : Value} {x : AV} (ht : C.ti t = some i) (hp : VR m (.vptr cells) c) (hle : i.size ≤ cells.length) (hx : mkVal i.kind.isAgg (cells.take i.size) = some x) (rw : RW m H w base) :
    Good P (do pure (.value (← Instr.loadAt t c))) m w base x H := by
  obtain ⟨B, off, rfl, l0, hv0, hc0⟩ := vptr_ok hp rw
  have hll0 := VRs.len hv0
  have hv := VRs.take i.size hv0
  have hc : ∀ (j : Nat) (d : Value), (l0.take i.size)[j]? = some d → w.cell? ⟨B, off + j, none⟩ = some d := by
    intro j d hj
    rw [List.getElem?_take] at hj
    split at hj
    · exact hc0 j d hj
    · cases hj
  have hl : (cells.take i.size).length = i.size := by rw [List.length_take]; omega
  generalize l0.take i.size = l at hv hc
  generalize cells.take i.size = xs at hv hx hl
  have hll := VRs.len hv
  refine Good.val (if i.kind.isAgg then .agg l.toArray else l.getD 0 undef) ?_ rw (mkVal_ok hx hv)
  have hload : (loadVar t ⟨B, off, none⟩).run P w = .ok (if i.kind.isAgg then .agg l.toArray else l.getD 0 undef) w := by
    simp only [loadVar, Sem.run_bind, ti_agg (hti _ _ ht) w, Result.andThen_ok]
    cases hk : i.kind.isAgg with
    | true =>
      simp only [if_true, Sem.run_bind, ti_size (hti _ _ ht) w, Result.andThen_ok]
      rw [show i.size = l.length by omega, loadCells_ok hc]
      rfl
    | false =>
      simp only [hk] at hx
      unfold mkVal at hx
      simp only [Bool.false_eq_true, if_false] at hx
      match xs, hx, hl, hll with
      | [y], hx, hl, hll =>
        match l, hll, hc with
        | [u], hll, hc =>
          have := hc 0 u rfl
          simp only [Nat.add_zero] at this
          simp [this]
  simp [Instr.loadAt, Instr.sureAddr, hload]

theorem op_store {P : Program} {C : Cx} (hti : ∀ t i, C.ti t = some i → mkTi P t = some i) {m : Mp} {H H' : Hp} {w : World} {base : Nat} {t : Nat} {i : Ti} {r v off : Nat} {c d : Value} {x : AV} (ht : C.ti t = some i) (hp : VR m (.ptr r v off) c) (hv : VR m x d) (hx : x.is = true) (hl : (cellsOf x).length = i.size)
    (h : wr H r v off (cellsOf x) = some H') (rw : RW m H w base) :
    Good P (do Instr.storeAt t c d; pure .skip) m w base .top H' := by
  simp only [VR] at hp
  obtain ⟨B, N, hm, rfl⟩ := hp
  have hcs := cellsOf_ok hv hx
  obtain ⟨w', h1, h2, h3⟩ := wr_ok (P := P) h rw hm hcs
  refine ⟨m, w', h2, h3, .inr ⟨?_, rfl⟩⟩
  have hlen : d.cells.size = i.size := by have := VRs.len hcs; simp at this; omega
  simp [Instr.storeAt, Instr.sureAddr, storeVar, ti_size (hti _ _ ht) w, hlen, h1]

theorem fwrap_eq (k : IntKind) (n : Int) : fwrap k n = k.wrap n := by
  unfold fwrap
  split
  · rename_i h
    simp only [Bool.and_eq_true, decide_eq_true_eq] at h
    obtain ⟨h1, h2⟩ := h
    cases k <;> simp only [lo, hi] at h1 h2 <;> simp [IntKind.wrap, IntKind.bits, IntKind.signed] <;> (try split) <;> omega
  · rfl

theorem op_intBin {P : Program} {m : Mp} {w : World} {t : Nat} {op : BinOp} {k : IntKind} {a b : Int} {v : AV} (h : intBin op k a b = some v) : ∃ c, (binOp op t (.int k a) (.int k b)).run P w = .ok c w ∧ VR m v c := by
  cases op
  case quo =>
    simp only [intBin, fwrap_eq] at h
    by_cases hb : b = 0
    · rw [if_pos hb] at h; cases h
    · rw [if_neg hb] at h; cases h
      exact ⟨.int k (k.wrap (a.tdiv b)), by simp [binOp, Op.intDiv, hb], by simp [VR]⟩
  case rem =>
    simp only [intBin] at h
    by_cases hb : b = 0
    · rw [if_pos hb] at h; cases h
    · rw [if_neg hb] at h; cases h
      exact ⟨.int k (a.tmod b), by simp [binOp, Op.intDiv, hb], by simp [VR]⟩
  case eql => simp only [intBin] at h; cases h; exact ⟨.bool (a == b), by simp [binOp, Op.intCmp], by simp only [VR]; rfl⟩
  case neq => simp only [intBin] at h; cases h; exact ⟨.bool (a != b), by simp [binOp, Op.intCmp], by simp only [VR]; rfl⟩
  case add => simp only [intBin, fwrap_eq] at h; cases h; exact ⟨.int k (k.wrap (a + b)), by simp [binOp, Op.intArith, Op.intBits, Op.intCmp], by simp only [VR]⟩
  case sub => simp only [intBin, fwrap_eq] at h; cases h; exact ⟨.int k (k.wrap (a - b)), by simp [binOp, Op.intArith, Op.intBits, Op.intCmp], by simp only [VR]⟩
  case mul => simp only [intBin, fwrap_eq] at h; cases h; exact ⟨.int k (k.wrap (a * b)), by simp [binOp, Op.intArith, Op.intBits, Op.intCmp], by simp only [VR]⟩
  case and => simp only [intBin, fwrap_eq] at h; cases h; exact ⟨.int k (k.wrap (BitVec.ofInt k.bits a &&& BitVec.ofInt k.bits b).toNat), by simp [binOp, Op.intArith, Op.intBits, Op.intCmp], by simp only [VR]⟩
  case or => simp only [intBin, fwrap_eq] at h; cases h; exact ⟨.int k (k.wrap (BitVec.ofInt k.bits a ||| BitVec.ofInt k.bits b).toNat), by simp [binOp, Op.intArith, Op.intBits, Op.intCmp], by simp only [VR]⟩
  case xor => simp only [intBin, fwrap_eq] at h; cases h; exact ⟨.int k (k.wrap (BitVec.ofInt k.bits a ^^^ BitVec.ofInt k.bits b).toNat), by simp [binOp, Op.intArith, Op.intBits, Op.intCmp], by simp only [VR]⟩
  case andNot => simp only [intBin, fwrap_eq] at h; cases h; exact ⟨.int k (k.wrap (BitVec.ofInt k.bits a &&& ~~~ BitVec.ofInt k.bits b).toNat), by simp [binOp, Op.intArith, Op.intBits, Op.intCmp], by simp only [VR]⟩
  case lss => simp only [intBin, fwrap_eq] at h; cases h; exact ⟨.bool (decide (a < b)), by simp [binOp, Op.intArith, Op.intBits, Op.intCmp], by simp only [VR]⟩
  case leq => simp only [intBin, fwrap_eq] at h; cases h; exact ⟨.bool (decide (a ≤ b)), by simp [binOp, Op.intArith, Op.intBits, Op.intCmp], by simp only [VR]⟩
  case gtr => simp only [intBin, fwrap_eq] at h; cases h; exact ⟨.bool (decide (b < a)), by simp [binOp, Op.intArith, Op.intBits, Op.intCmp], by simp only [VR]⟩
  case geq => simp only [intBin, fwrap_eq] at h; cases h; exact ⟨.bool (decide (b ≤ a)), by simp [binOp, Op.intArith, Op.intBits, Op.intCmp], by simp only [VR]⟩
  all_goals (simp only [intBin] at h; cases h)

theorem eqL_iff : ∀ (x y : List Nat), eqL x y = true ↔ x = y
  | [], [] => by simp [eqL]
  | [], b :: y => by simp [eqL]
  | a :: x, [] => by simp [eqL]
  | a :: x, b :: y => by simp [eqL, eqL_iff x y]
theorem lessL_eq : ∀ (x y : List UInt8), lessL (x.map (·.toNat)) (y.map (·.toNat)) = Op.bytesLess x y
  | [], [] => by simp [lessL, Op.bytesLess]
  | [], b :: y => by simp [lessL, Op.bytesLess]
  | a :: x, [] => by simp [lessL, Op.bytesLess]
  | a :: x, b :: y => by
    simp only [List.map_cons, lessL, Op.bytesLess, lessL_eq x y]
    congr 1
    · rw [Bool.eq_iff_iff]; simp [UInt8.lt_iff_toNat_lt]
    · congr 1
      rw [Bool.eq_iff_iff]; simp [← UInt8.toNat_inj]
theorem eqL_eq (x y : List UInt8) : eqL (x.map (·.toNat)) (y.map (·.toNat)) = (x == y) := by
  rw [Bool.eq_iff_iff, eqL_iff, beq_iff_eq]
  exact ⟨fun h => List.map_inj_right (fun a b e => UInt8.toNat_inj.1 e) |>.1 h, fun h => by rw [h]⟩
theorem op_strBin {P : Program} {m : Mp} {w : World} {t : Nat} {op : BinOp} {a b : ByteArray} {v : AV} (h : strBin op (a.data.toList.map (·.toNat)) (b.data.toList.map (·.toNat)) = some v) : ∃ c, (binOp op t (.string a) (.string b)).run P w = .ok c w ∧ VR m v c := by
  cases op <;> simp only [strBin, eqL_eq, lessL_eq] at h <;> try (cases h; done)
  case add =>
    split at h
    · rename_i hl
      cases h
      have hs : ¬ ((a.size + b.size : Nat) : Int) > IntKind.i64.max := by
        simp only [List.length_map] at hl
        have h1 : a.data.toList.length = a.size := rfl
        have h2 : b.data.toList.length = b.size := rfl
        rw [h1, h2] at hl
        simp [IntKind.max, IntKind.signed, IntKind.bits]
        omega
      refine ⟨.string (a ++ b), ?_, ?_⟩
      · simp only [binOp, Op.stringOp]
        rw [if_neg hs]
        rfl
      · simp only [VR]
        exact ⟨_, rfl, by simp⟩
    · cases h
  case eql => cases h; exact ⟨.bool (a.data.toList == b.data.toList), by simp [binOp, Op.stringOp, ByteArray.toList_eq], by simp only [VR]⟩
  case neq => cases h; exact ⟨.bool (!(a.data.toList == b.data.toList)), by simp [binOp, Op.stringOp, ByteArray.toList_eq], by simp only [VR]⟩
  case lss => cases h; exact ⟨.bool (Op.bytesLess a.data.toList b.data.toList), by simp [binOp, Op.stringOp, ByteArray.toList_eq], by simp only [VR]⟩
  case leq => cases h; exact ⟨.bool (Op.bytesLess a.data.toList b.data.toList || a.data.toList == b.data.toList), by simp [binOp, Op.stringOp, ByteArray.toList_eq], by simp only [VR]⟩
  case gtr => cases h; exact ⟨.bool (!(Op.bytesLess a.data.toList b.data.toList || a.data.toList == b.data.toList)), by simp [binOp, Op.stringOp, ByteArray.toList_eq], by simp only [VR]⟩
  case geq => cases h; exact ⟨.bool (!Op.bytesLess a.data.toList b.data.toList), by simp [binOp, Op.stringOp, ByteArray.toList_eq], by simp only [VR]⟩
end Go.Proofs.Ytfkefelgjbfkjaa.Am

/-! Each operation of the abstract machine tells what Go's machine does. Third part: comparisons, conversions, parts. -/
set_option linter.unusedVariables false
set_option linter.unusedSimpArgs false
namespace Go.Proofs.Ytfkefelgjbfkjaa.Am
open Go

theorem kindT_bool {P : Program} {t : TypeId} (h : kindT P t = .bool) : P.underlying t = some .bool := by
  unfold kindT at h
  cases hu : P.underlying t with
  | none => rw [hu] at h; cases h
  | some d => rw [hu] at h; cases d <;> simp [Tk.of] at h; rfl
theorem kindT_string {P : Program} {t : TypeId} (h : kindT P t = .string) : P.underlying t = some .string := by
  unfold kindT at h
  cases hu : P.underlying t with
  | none => rw [hu] at h; cases h
  | some d => rw [hu] at h; cases d <;> simp [Tk.of] at h; rfl
theorem kindT_int {P : Program} {t : TypeId} {k : IntKind} (h : kindT P t = .int k) : P.underlying t = some (.int k) := by
  unfold kindT at h
  cases hu : P.underlying t with
  | none => rw [hu] at h; cases h
  | some d => rw [hu] at h; cases d <;> simp [Tk.of] at h; rw [h]
theorem scal_ok {P : Program} {m : Mp} {w : World} {t : TypeId} {x y : AV} {c d : Value} {r : Bool} (h : scalEq (kindT P t) x y = some r) (hx : VR m x c) (hy : VR m y d) :
    (Op.equalIn 9999 t c d).run P w = .ok r w ∧ (isAgg t).run P w = .ok false w := by
  cases hk : kindT P t <;> rw [hk] at h <;> cases x <;> cases y <;> simp only [scalEq] at h <;> try (cases h; done)
  · cases h
    simp only [VR] at hx hy
    subst hx; subst hy
    have hu := kindT_bool hk
    exact ⟨run_equalIn_bool' w 9998 t _ _ hu, by simp [isAgg, run_underlying hu]⟩
  · split at h
    · rename_i e
      cases h
      subst e
      simp only [VR] at hx hy
      subst hx; subst hy
      have hu := kindT_int hk
      refine ⟨?_, by simp [isAgg, run_underlying hu]⟩
      rw [run_equalIn_int w 9998 t _ _ _ _ hu]
      rfl
    · cases h
  · cases h
    simp only [VR] at hx hy
    obtain ⟨s, rfl, rfl⟩ := hx
    obtain ⟨u, rfl, rfl⟩ := hy
    have hu := kindT_string hk
    refine ⟨?_, by simp [isAgg, run_underlying hu]⟩
    rw [run_equalIn_string w 9998 t _ _ hu, eqL_eq, ByteArray.toList_eq, ByteArray.toList_eq]
theorem VRs.cons_drop {m : Mp} {x : AV} {xs : List AV} {cs : Array Value} {i : Nat} (h : VRs m (x :: xs) (cs.toList.drop i)) : ∃ c, cs[i]? = some c ∧ VR m x c ∧ VRs m xs (cs.toList.drop (i + 1)) := by
  simp only [VRs] at h
  obtain ⟨y, ys, e, h1, h2⟩ := h
  have h0 : (cs.toList.drop i)[0]? = some y := by rw [e]; rfl
  rw [List.getElem?_drop] at h0
  refine ⟨y, by simpa using h0, h1, ?_⟩
  have : cs.toList.drop (i + 1) = (cs.toList.drop i).drop 1 := by rw [List.drop_drop]
  rw [this, e]
  exact h2
theorem run_part_one {P : Program} {w : World} {t : TypeId} {cs : Array Value} {i : Nat} {c : Value} (ha : (isAgg t).run P w = .ok false w) (hc : cs[i]? = some c) : (part t cs i).run P w = .ok c w := by
  simp [part, ha, hc]
theorem eqFields_ok {P : Program} {m : Mp} {w : World} {xs ys : Array Value} : ∀ (fs : List Field) (i : Nat) (as bs : List AV) (r : Bool), fs.map (·.offset) = List.range' i fs.length → (fs.all (fun f => f.name != "_")) = true → VRs m as (xs.toList.drop i) → VRs m bs (ys.toList.drop i) →
    aggEq (fs.map fun f => kindT P f.type) as bs = some r → (Op.eqFields 9999 xs ys fs).run P w = .ok r w
  | [], i, as, bs, r, _, _, _, _, h => by
    cases as <;> cases bs <;> simp only [List.map_nil, aggEq] at h <;> cases h
    simp [Op.eqFields]
  | f :: fs, i, as, bs, r, ho, hn, ha, hb, h => by
    cases as with
    | nil => simp [aggEq] at h
    | cons a as =>
      cases bs with
      | nil => simp [aggEq] at h
      | cons b bs =>
        simp only [List.map_cons, aggEq] at h
        simp only [List.map_cons, List.length_cons, List.range'_succ, List.cons.injEq] at ho
        simp only [List.all_cons, Bool.and_eq_true] at hn
        obtain ⟨c, hc, hca, ha'⟩ := VRs.cons_drop ha
        obtain ⟨d, hd, hdb, hb'⟩ := VRs.cons_drop hb
        cases h1 : scalEq (kindT P f.type) a b with
        | none => rw [h1] at h; cases h
        | some r1 =>
          cases h2 : aggEq (fs.map fun f => kindT P f.type) as bs with
          | none => rw [h1, h2] at h; cases h
          | some r2 =>
            rw [h1, h2] at h
            cases h
            obtain ⟨e1, e2⟩ := scal_ok (w := w) h1 hca hdb
            have ih := eqFields_ok (P := P) (w := w) fs (i + 1) as bs r2 ho.2 hn.2 ha' hb' h2
            have hne : f.name ≠ "_" := by simpa using hn.1
            simp only [Op.eqFields, hne, ne_eq, not_false_eq_true, if_true, Sem.run_bind, ho.1, run_part_one e2 hc, run_part_one e2 hd, e1, Result.andThen_ok]
            cases r1
            · simp
            · simpa using ih
theorem eqItems_ok {P : Program} {m : Mp} {w : World} {e : TypeId} {xs ys : Array Value} : ∀ (n i : Nat) (as bs : List AV) (r : Bool), VRs m as (xs.toList.drop i) → VRs m bs (ys.toList.drop i) →
    aggEq (List.replicate n (kindT P e)) as bs = some r → (Op.eqItems 9999 e 1 xs ys (List.range' i n)).run P w = .ok r w
  | 0, i, as, bs, r, _, _, h => by
    cases as <;> cases bs <;> simp only [List.replicate_zero, aggEq] at h <;> cases h
    simp [Op.eqItems]
  | n + 1, i, as, bs, r, ha, hb, h => by
    cases as with
    | nil => simp [List.replicate_succ, aggEq] at h
    | cons a as =>
      cases bs with
      | nil => simp [List.replicate_succ, aggEq] at h
      | cons b bs =>
        simp only [List.replicate_succ, aggEq] at h
        obtain ⟨c, hc, hca, ha'⟩ := VRs.cons_drop ha
        obtain ⟨d, hd, hdb, hb'⟩ := VRs.cons_drop hb
        cases h1 : scalEq (kindT P e) a b with
        | none => rw [h1] at h; cases h
        | some r1 =>
          cases h2 : aggEq (List.replicate n (kindT P e)) as bs with
          | none => rw [h1, h2] at h; cases h
          | some r2 =>
            rw [h1, h2] at h
            cases h
            obtain ⟨e1, e2⟩ := scal_ok (w := w) h1 hca hdb
            have ih := eqItems_ok (P := P) (w := w) n (i + 1) as bs r2 ha' hb' h2
            simp only [List.range'_succ, Op.eqItems, Nat.mul_one, Sem.run_bind, run_part_one e2 hc, run_part_one e2 hd, e1, Result.andThen_ok]
            cases r1
            · simp
            · simpa using ih
theorem agg_eq {P : Program} {m : Mp} {w : World} {t : TypeId} {d : TypeDesc} {ks : List Tk} (hu : P.underlying t = some d) (hf : flatOf P t d = some ks) {as bs : List AV} {xs ys : Array Value} (ha : VRs m as xs.toList) (hb : VRs m bs ys.toList) {r : Bool} (h : aggEq ks as bs = some r) :
    (Op.equalIn 10000 t (.agg xs) (.agg ys)).run P w = .ok r w ∧ P.eqGuardType P.depth t = false := by
  cases d <;> simp only [flatOf] at hf <;> try (cases hf; done)
  case struct fs =>
    split at hf
    · rename_i hc
      cases hf
      simp only [Bool.and_eq_true, Bool.not_eq_true', beq_iff_eq] at hc
      obtain ⟨⟨⟨h1, h2⟩, h3⟩, h4⟩ := hc
      have hfs : P.fieldsOf t = fs := by simp [Program.fieldsOf, hu]
      refine ⟨?_, h2⟩
      rw [run_equalIn_struct w 9999 t xs ys (by rw [hfs]; exact hu) h1, hfs]
      exact eqFields_ok fs.toList 0 as bs r h3 h4 (by simpa using ha) (by simpa using hb) h
    · cases hf
  case array n e =>
    split at hf
    · rename_i hc
      cases hf
      simp only [Bool.and_eq_true, Bool.not_eq_true', beq_iff_eq] at hc
      obtain ⟨⟨h1, h2⟩, h3⟩ := hc
      obtain ⟨i, hi⟩ := Option.isSome_iff_exists.1 h2
      refine ⟨?_, h1⟩
      rw [run_equalIn_array (w := w) 9999 xs ys hu hi, h3, List.range_eq_range']
      exact eqItems_ok n 0 as bs r (by simpa using ha) (by simpa using hb) h
    · cases hf
end Go.Proofs.Ytfkefelgjbfkjaa.Am

/-! Each operation of the abstract machine tells what Go's machine does. Fourth part: operators, conversions. -/
set_option linter.unusedVariables false
set_option linter.unusedSimpArgs false
namespace Go.Proofs.Ytfkefelgjbfkjaa.Am
open Go

section
variable {P : Program} (w : World) (d : Nat) {t e : TypeId}
theorem eqi_ptr_nil (h : P.underlying t = some (.pointer e)) (a : Addr) : (Op.equalIn (d + 1) t (.pointer (some a)) (.pointer none)).run P w = .ok false w := by simp [Op.equalIn, run_underlying h]
theorem eqi_nil_ptr (h : P.underlying t = some (.pointer e)) (a : Addr) : (Op.equalIn (d + 1) t (.pointer none) (.pointer (some a))).run P w = .ok false w := by simp [Op.equalIn, run_underlying h]
theorem eqi_nil_nil (h : P.underlying t = some (.pointer e)) : (Op.equalIn (d + 1) t (.pointer none) (.pointer none)).run P w = .ok true w := by simp [Op.equalIn, run_underlying h]
theorem eqi_sl_nil (h : P.underlying t = some (.slice e)) (a : Addr) (l c : Nat) : (Op.equalIn (d + 1) t (.slice (some a) l c) (.slice none 0 0)).run P w = .ok false w := by simp [Op.equalIn, run_underlying h]
theorem eqi_nil_sl (h : P.underlying t = some (.slice e)) : (Op.equalIn (d + 1) t (.slice none 0 0) (.slice none 0 0)).run P w = .ok true w := by simp [Op.equalIn, run_underlying h]
theorem eqi_iface_nil {ms : Array (String × TypeId)} (h : P.underlying t = some (.interface ms)) (u : TypeId) (v : Value) : (Op.equalIn (d + 1) t (.iface u v) .nilIface).run P w = .ok false w := by simp [Op.equalIn, run_underlying h]
end

theorem eqK_ok {P : Program} {m : Mp} {w : World} {t : TypeId} {i : Ti} (ht : mkTi P t = some i) {x y : AV} {c d : Value} {r : Bool} (h : eqK i x y = some r) (hx : VR m x c) (hy : VR m y d) (ox oy : Operand) :
    (Op.equal t c d).run P w = .ok r w ∧ (eqGuard .eql t ox oy c d).run P w = .ok () w ∧ (eqGuard .neq t ox oy c d).run P w = .ok () w ∧ (∀ k n k' n', ¬ (c = .int k n ∧ d = .int k' n')) ∧ (∀ s s', ¬ (c = .string s ∧ d = .string s')) := by
  unfold eqK at h
  split at h
  · rename_i hk
    cases h
    simp only [VR] at hx hy
    subst hx; subst hy
    exact ⟨run_equalIn_bool' w 9999 t _ _ (ti_bool ht hk), by simp [eqGuard], by simp [eqGuard], by simp, by simp⟩
  · rename_i hk
    cases h
    simp only [VR] at hx hy
    obtain ⟨B, N, _, rfl⟩ := hx
    subst hy
    exact ⟨eqi_ptr_nil w 9999 (ti_pointer ht hk) _, by simp [eqGuard], by simp [eqGuard], by simp, by simp⟩
  · rename_i hk
    cases h
    simp only [VR] at hx hy
    obtain ⟨B, N, _, rfl⟩ := hy
    subst hx
    exact ⟨eqi_nil_ptr w 9999 (ti_pointer ht hk) _, by simp [eqGuard], by simp [eqGuard], by simp, by simp⟩
  · rename_i hk
    cases h
    simp only [VR] at hx hy
    subst hx; subst hy
    exact ⟨eqi_nil_nil w 9999 (ti_pointer ht hk), by simp [eqGuard], by simp [eqGuard], by simp, by simp⟩
  · rename_i hk
    cases h
    simp only [VR] at hx hy
    obtain ⟨B, N, cap, _, _, _, _, rfl⟩ := hx
    subst hy
    exact ⟨eqi_sl_nil w 9999 (ti_slice ht hk) _ _ _, by simp [eqGuard], by simp [eqGuard], by simp, by simp⟩
  · rename_i hk
    cases h
    simp only [VR] at hx hy
    subst hx; subst hy
    exact ⟨eqi_nil_sl w 9999 (ti_slice ht hk), by simp [eqGuard], by simp [eqGuard], by simp, by simp⟩
  · rename_i hk
    cases h
    obtain ⟨ms, hu⟩ := (ti_iface ht).1 hk
    simp only [VR] at hx hy
    obtain ⟨e, rfl, _⟩ := hx
    subst hy
    exact ⟨eqi_iface_nil w 9999 hu _ _, by simp [eqGuard], by simp [eqGuard], by simp, by simp⟩
  · cases hf : i.flat with
    | none => rw [hf] at h; cases h
    | some ks =>
      rw [hf] at h
      simp only [VR] at hx hy
      obtain ⟨cs, rfl, h1⟩ := hx
      obtain ⟨ds, rfl, h2⟩ := hy
      obtain ⟨j, dd, _, hu, _, _, _, _, _, _, _, hfl⟩ := mkTi_spec ht
      obtain ⟨e1, e2⟩ := agg_eq (w := w) hu (hfl ▸ hf) h1 h2 h
      exact ⟨e1, run_eqGuard_agg w .eql t ox oy cs ds e2, run_eqGuard_agg w .neq t ox oy cs ds e2, by simp, by simp⟩
  · cases h

theorem binOp_eql_run {P : Program} {w : World} {t : TypeId} {c d : Value} {r : Bool} (he : (Op.equal t c d).run P w = .ok r w) (h1 : ∀ k n k' n', ¬ (c = .int k n ∧ d = .int k' n')) (h2 : ∀ s s', ¬ (c = .string s ∧ d = .string s'))
    (h3 : ∀ k a k' b, ¬ (c = .float k a ∧ d = .float k' b)) (h4 : ∀ k a a' k' b b', ¬ (c = .complex k a a' ∧ d = .complex k' b b')) :
    (binOp .eql t c d).run P w = .ok (.bool r) w ∧ (binOp .neq t c d).run P w = .ok (.bool !r) w := by
  constructor
  · unfold binOp
    split <;> first
      | (exfalso; exact h1 _ _ _ _ ⟨rfl, rfl⟩)
      | (exfalso; exact h2 _ _ ⟨rfl, rfl⟩)
      | (exfalso; exact h3 _ _ _ _ ⟨rfl, rfl⟩)
      | (exfalso; exact h4 _ _ _ _ _ _ ⟨rfl, rfl⟩)
      | (simp [he]; done)
      | (simp_all; done)
  · unfold binOp
    split <;> first
      | (exfalso; exact h1 _ _ _ _ ⟨rfl, rfl⟩)
      | (exfalso; exact h2 _ _ ⟨rfl, rfl⟩)
      | (exfalso; exact h3 _ _ _ _ ⟨rfl, rfl⟩)
      | (exfalso; exact h4 _ _ _ _ _ _ ⟨rfl, rfl⟩)
      | (simp [he]; done)
      | (simp_all; done)
theorem VR_nofloat {m : Mp} {x : AV} {c : Value} (hx : VR m x c) (h : x.is = true) : (∀ k a, c ≠ .float k a) ∧ (∀ k a b, c ≠ .complex k a b) := by
  cases x <;> simp only [VR] at hx <;> try (simp [AV.is] at h; done)
  all_goals
    first
      | (subst hx; simp; done)
      | (obtain ⟨ys, rfl, h2⟩ := hx; simp; done)
      | (obtain ⟨ys, zs, rfl, h2⟩ := hx; simp; done)
      | (obtain ⟨B, N, h1, rfl⟩ := hx; simp; done)
      | (obtain ⟨B, N, cap, h1, h2, h3, h4, rfl⟩ := hx; simp; done)
      | (obtain ⟨h0, a, cap, rfl, hr⟩ := hx; simp; done)
      | (obtain ⟨i, B, off, all, h1, rfl, hr⟩ := hx; simp; done)
      | (rcases hx with ⟨h0, rfl⟩ | ⟨B, N, cap, h1, h2, h3, rfl⟩ <;> simp; done)
theorem eqK_is {i : Ti} {x y : AV} {r : Bool} (h : eqK i x y = some r) : x.is = true ∧ y.is = true := by
  unfold eqK at h
  split at h <;> first | (cases h; done) | exact ⟨rfl, rfl⟩

theorem binV_ok {P : Program} {C : Cx} (hti : ∀ t i, C.ti t = some i → mkTi P t = some i) {m : Mp} {w : World} {op : BinOp} {t : Nat} {x y v : AV} {c d : Value} (h : binV C op t x y = some v) (hx : VR m x c) (hy : VR m y d) (ox oy : Operand) :
    ∃ e, ((do eqGuard op t ox oy c d; binOp op t c d) : Sem Value).run P w = .ok e w ∧ VR m v e := by
  have noguard : ∀ e, (op ≠ .eql ∧ op ≠ .neq ∨ (∀ xs, c ≠ .agg xs) ∧ c ≠ .nilIface) → (binOp op t c d).run P w = .ok e w → ((do eqGuard op t ox oy c d; binOp op t c d) : Sem Value).run P w = .ok e w := by
    intro e ho hr
    have hg : (eqGuard op t ox oy c d).run P w = .ok () w := by
      unfold eqGuard
      rcases ho with ho | ho
      · cases op <;> simp_all
      · cases op <;> simp <;> cases c <;> simp_all
    simp [hg, hr]
  unfold binV at h
  split at h
  · rename_i k a k' b
    simp only [VR] at hx hy
    subst hx; subst hy
    split at h
    · split at h
      · cases h
      · rename_i hb
        cases h
        refine ⟨_, noguard _ (.inr ⟨by simp, by simp⟩) (by simp only [binOp, Op.shift]; rw [if_neg hb]; rfl), ?_⟩
        simp only [VR, fwrap_eq]
    · split at h
      · cases h
      · rename_i hb
        cases h
        refine ⟨_, noguard _ (.inr ⟨by simp, by simp⟩) (by simp only [binOp, Op.shift]; rw [if_neg hb]; rfl), ?_⟩
        simp only [VR]
    · split at h
      · rename_i e
        subst e
        obtain ⟨e, he, hv⟩ := op_intBin (P := P) (m := m) (w := w) (t := t) h
        exact ⟨e, noguard _ (.inr ⟨by simp, by simp⟩) he, hv⟩
      · cases h
  · rename_i a b
    simp only [VR] at hx hy
    obtain ⟨s, rfl, rfl⟩ := hx
    obtain ⟨u, rfl, rfl⟩ := hy
    obtain ⟨e, he, hv⟩ := op_strBin (P := P) (m := m) (w := w) (t := t) h
    exact ⟨e, noguard _ (.inr ⟨by simp, by simp⟩) he, hv⟩
  · rename_i q r b
    simp only [VR] at hx hy
    obtain ⟨n, rfl, hn, hn2⟩ := hx
    obtain ⟨hn3, hn4⟩ := hn2 (by trivial)
    subst hy
    split at h
    · split at h
      · rename_i hq
        obtain ⟨rfl, hq⟩ := hq
        cases h
        have hb : ¬ (q : Int) = 0 := by omega
        have e1 : n.tmod (q : Int) = (r : Int) := by
          rw [Int.tmod_eq_emod_of_nonneg hn3, ← hn, Int.emod_eq_of_lt hn3 hn4]
        refine ⟨.int .u64 (n.tmod q), noguard _ (.inr ⟨by simp, by simp⟩) (by simp [binOp, Op.intDiv, hb]; omega), ?_⟩
        simp only [VR, e1]
      · cases h
    · cases h
  · have key : ∀ r, eqV C t x y = some r → (eqGuard .eql t ox oy c d).run P w = .ok () w ∧ (eqGuard .neq t ox oy c d).run P w = .ok () w ∧ (binOp .eql t c d).run P w = .ok (.bool r) w ∧ (binOp .neq t c d).run P w = .ok (.bool !r) w := by
      intro r hr
      unfold eqV at hr
      cases ht : C.ti t with
      | none => rw [ht] at hr; cases hr
      | some i =>
        rw [ht] at hr
        obtain ⟨e1, e2, e3, e4, e5⟩ := eqK_ok (w := w) (hti _ _ ht) hr hx hy ox oy
        have hi := eqK_is hr
        have n1 := VR_nofloat hx hi.1
        obtain ⟨b1, b2⟩ := binOp_eql_run (P := P) e1 e4 e5 (fun k a k' b e => n1.1 k a e.1) (fun k a a' k' b b' e => n1.2 k a a' e.1)
        exact ⟨e2, e3, b1, b2⟩
    split at h
    · cases hr : eqV C t x y with
      | none => rw [hr] at h; cases h
      | some r =>
        rw [hr] at h
        cases h
        obtain ⟨e1, e2, e3, e4⟩ := key r hr
        exact ⟨.bool r, by simp [e1, e3], by simp only [VR]⟩
    · cases hr : eqV C t x y with
      | none => rw [hr] at h; cases h
      | some r =>
        rw [hr] at h
        cases h
        obtain ⟨e1, e2, e3, e4⟩ := key r hr
        exact ⟨.bool !r, by simp [e2, e4], by simp only [VR]⟩
    · cases h
theorem unV_ok {P : Program} {m : Mp} {w : World} {op : UnOp} {x v : AV} {c : Value} (h : unV op x = some v) (hx : VR m x c) : ∃ e, (Op.unary op c).run P w = .ok e w ∧ VR m v e := by
  unfold unV at h
  split at h
  · cases h
    simp only [VR] at hx
    subst hx
    exact ⟨_, by simp only [Op.unary, Op.intArith]; rfl, by simp only [VR, fwrap_eq]⟩
  · cases h
    simp only [VR] at hx
    subst hx
    exact ⟨_, by simp only [Op.unary, Op.intBits]; rfl, by simp only [VR, fwrap_eq]⟩
  · cases h
    simp only [VR] at hx
    subst hx
    exact ⟨_, by simp only [Op.unary]; rfl, by simp only [VR]⟩
  · cases h
end Go.Proofs.Ytfkefelgjbfkjaa.Am

/-! Each operation of the abstract machine tells what Go's machine does. Fifth part: conversions, slices, parts of values. -/
set_option linter.unusedVariables false
set_option linter.unusedSimpArgs false
namespace Go.Proofs.Ytfkefelgjbfkjaa.Am
open Go

theorem bytesOf_spec : ∀ {xs : List AV} {l : List Nat}, bytesOf xs = some l → ∃ ns : List Int, xs = ns.map (AV.int .u8) ∧ l = ns.map (·.toNat) ∧ ∀ n ∈ ns, 0 ≤ n ∧ n ≤ 255
  | [], l, h => by simp only [bytesOf] at h; cases h; exact ⟨[], rfl, rfl, by simp⟩
  | x :: xs, l, h => by
    unfold bytesOf at h
    split at h <;> rename_i e1
    · cases e1
    · rename_i n r
      cases e1
      cases hb : bytesOf xs with
      | none => rw [hb] at h; cases h
      | some l' =>
        rw [hb] at h
        simp only at h
        split at h
        · rename_i hn
          cases h
          obtain ⟨ns, h1, h2, h3⟩ := bytesOf_spec hb
          exact ⟨n :: ns, by rw [h1]; rfl, by rw [h2]; rfl, by
            intro k hk
            rcases List.mem_cons.1 hk with rfl | hk
            · exact hn
            · exact h3 k hk⟩
        · cases h
    · cases h
theorem VRs_ints {m : Mp} : ∀ {ns : List Int} {l : List Value}, VRs m (ns.map (AV.int .u8)) l → l = ns.map (Value.int .u8)
  | [], l, h => by simpa only [List.map_nil, VRs] using h
  | n :: ns, l, h => by
    simp only [List.map_cons, VRs, VR] at h
    obtain ⟨y, ys, rfl, rfl, h2⟩ := h
    rw [VRs_ints h2]; rfl
theorem strOfNums_nats (ns : List Int) (h : ∀ n ∈ ns, 0 ≤ n ∧ n ≤ 255) : (strOfNums ns).data.toList.map (·.toNat) = ns.map (·.toNat) := by
  rw [strOfNums_data, List.map_map]
  apply List.map_congr_left
  intro n hn
  have := h n hn
  simp
  omega
theorem convV_ok {P : Program} {C : Cx} (hti : ∀ t i, C.ti t = some i → mkTi P t = some i) {m : Mp} {H H' : Hp} {w : World} {base : Nat} {src dst : Nat} {x v : AV} {c : Value} (h : convV C H src dst x = some (v, H')) (hx : VR m x c) (rw : RW m H w base) :
    H' = H ∧ ∃ e, (convert src dst c).run P w = .ok e w ∧ VR m v e := by
  unfold convV at h
  cases ha : C.ti src with
  | none => rw [ha] at h; cases h
  | some a =>
    cases hb : C.ti dst with
    | none => rw [ha, hb] at h; cases h
    | some b =>
      rw [ha, hb] at h
      simp only at h
      obtain ⟨j, d, _, hus, _⟩ := mkTi_spec (hti _ _ ha)
      split at h
      · rename_i k k' n hk
        cases h
        simp only [VR] at hx
        subst hx
        have hud := ti_int (hti _ _ hb) hk
        refine ⟨rfl, .int k (k.wrap n), ?_, by simp only [VR, fwrap_eq]⟩
        simp [convert, run_underlying hus, run_underlying hud, Conv.intToInt]
      · rename_i q r hk
        cases h
        simp only [VR] at hx
        obtain ⟨n, rfl, hn, _⟩ := hx
        have hud := ti_int (hti _ _ hb) hk
        have hw : IntKind.u64.wrap n = n % 18446744073709551616 := by simp [IntKind.wrap, IntKind.bits, IntKind.signed]
        refine ⟨rfl, .int .u64 (IntKind.u64.wrap n), ?_, ?_⟩
        · simp [convert, run_underlying hus, run_underlying hud, Conv.intToInt]
        · simp only [VR]
          refine ⟨_, rfl, ?_, fun _ => ?_⟩
          · rw [hw, Int.emod_emod]; exact hn
          · rw [hw]
            exact ⟨Int.emod_nonneg _ (by decide), Int.emod_lt_of_pos _ (by decide)⟩
      · rename_i k n hk
        cases h
        simp only [VR] at hx
        subst hx
        have hud := ti_string (hti _ _ hb) hk
        refine ⟨rfl, .string (Utf8.encode n), ?_, by simp only [VR]; exact ⟨_, rfl, rfl⟩⟩
        simp [convert, run_underlying hus, run_underlying hud, Conv.intToString]
      · rename_i s hk
        cases h
        simp only [VR] at hx
        obtain ⟨s, rfl, rfl⟩ := hx
        have hud := ti_string (hti _ _ hb) hk
        refine ⟨rfl, .string s, ?_, by simp only [VR]; exact ⟨_, rfl, rfl⟩⟩
        cases d <;> simp [convert, run_underlying hus, run_underlying hud]
      · rename_i hk
        have hud := ti_string (hti _ _ hb) hk
        simp only [VR] at hx
        subst hx
        split at h
        · rename_i e hka he
          split at h
          · rename_i hke
            cases h
            refine ⟨rfl, .string .empty, run_convert_bytes_nil w src a.elem (ti_slice (hti _ _ ha) hka) (ti_int (hti _ _ he) hke) 0 0 dst hud, by simp only [VR]; exact ⟨_, rfl, rfl⟩⟩
          · cases h
        · cases h
      · rename_i r v' off len sz hk
        have hud := ti_string (hti _ _ hb) hk
        simp only [VR] at hx
        obtain ⟨B, N, cap, hm, _, _, _, rfl⟩ := hx
        split at h
        · rename_i e hka he
          split at h
          · rename_i hke
            split at h
            · rename_i hsz
              cases hrd : rd H r v' off len with
              | none => rw [hrd] at h; cases h
              | some cs =>
                rw [hrd] at h
                simp only at h
                cases hby : bytesOf cs with
                | none => rw [hby] at h; cases h
                | some l =>
                  rw [hby] at h
                  cases h
                  obtain ⟨hl, vs, hv, hc⟩ := rd_ok hrd rw hm
                  obtain ⟨ns, rfl, rfl, hns⟩ := bytesOf_spec hby
                  have hvs := VRs_ints hv
                  subst hvs
                  refine ⟨rfl, .string (strOfNums ns), run_convert_bytes_arg w src a.elem (ti_slice (hti _ _ ha) hka) (ti_int (hti _ _ he) hke) B off len cap ns (by simpa using hl) (fun i hi => ?_) dst hud, by simp only [VR]; exact ⟨_, rfl, strOfNums_nats ns hns⟩⟩
                  have hi' : i < ns.length := by simp at hl; omega
                  refine hc i _ ?_
                  simp [List.getElem?_eq_getElem hi', List.getD_eq_getElem?_getD]
            · cases h
          · cases h
        · cases h
      · rename_i r len sz hk
        have hud := ti_string (hti _ _ hb) hk
        split at h
        · rename_i e hka he
          split at h
          · rename_i hke
            split at h
            · rename_i hsz
              cases hrd : rd H r (len * sz) 0 len with
              | none => rw [hrd] at h; cases h
              | some cs =>
                rw [hrd] at h
                simp only at h
                cases hby : bytesOf cs with
                | none => rw [hby] at h; cases h
                | some l =>
                  rw [hby] at h
                  cases h
                  simp only [VR] at hx
                  rcases hx with ⟨h0, rfl⟩ | ⟨B, N, cap, hm, hq1, hq2, rfl⟩
                  · have hcs := rd_len0 hrd h0
                    subst hcs
                    simp only [bytesOf] at hby
                    cases hby
                    exact ⟨rfl, .string .empty, run_convert_bytes_nil w src a.elem (ti_slice (hti _ _ ha) hka) (ti_int (hti _ _ he) hke) 0 0 dst hud, by simp only [VR]; exact ⟨_, rfl, rfl⟩⟩
                  · obtain ⟨hl, vs, hv, hc⟩ := rd_ok hrd rw hm
                    obtain ⟨ns, rfl, rfl, hns⟩ := bytesOf_spec hby
                    have hvs := VRs_ints hv
                    subst hvs
                    refine ⟨rfl, .string (strOfNums ns), run_convert_bytes_arg w src a.elem (ti_slice (hti _ _ ha) hka) (ti_int (hti _ _ he) hke) B 0 len cap ns (by simpa using hl) (fun i hi => ?_) dst hud, by simp only [VR]; exact ⟨_, rfl, strOfNums_nats ns hns⟩⟩
                    have hi' : i < ns.length := by simp at hl; omega
                    refine hc i _ ?_
                    simp [List.getElem?_eq_getElem hi', List.getD_eq_getElem?_getD]
            · cases h
          · cases h
        · cases h
      · cases h

theorem bound_ok {P : Program} {m : Mp} {w : World} {x : AV} {c : Value} {y n : Nat} {code : BoundsCode} (h : bound x y = some n) (hx : VR m x c) : (Instr.sliceBound c y code).run P w = .ok n w ∧ n ≤ y := by
  unfold bound at h
  split at h
  · split at h
    · rename_i hc
      cases h
      simp only [VR] at hx
      subst hx
      refine ⟨?_, by omega⟩
      simp only [Instr.sliceBound, asIntOf, Sem.run_bind, Sem.run_pure, Result.andThen_ok]
      rw [if_pos hc]; rfl
    · cases h
  · cases h
/-- Optional bounds. -/
def VRo (m : Mp) : Option AV → Option Value → Prop
  | none, none => True
  | some x, some c => VR m x c
  | _, _ => False
theorem boundO_ok {P : Program} {m : Mp} {w : World} {x : Option AV} {c : Option Value} {y d n : Nat} {code : BoundsCode} (h : boundO x y d = some n) (hd : d ≤ y) (hx : VRo m x c) : (match c with | some v => Instr.sliceBound v y code | none => pure d : Sem Nat).run P w = .ok n w ∧ n ≤ y := by
  cases x <;> cases c <;> simp only [VRo] at hx
  · simp only [boundO] at h; cases h; exact ⟨rfl, hd⟩
  · simp only [boundO] at h; exact bound_ok h hx
theorem bounds_ok {P : Program} {m : Mp} {w : World} {lo hi : Option AV} {cl ch : Option Value} {isS : Bool} {len cap l h : Nat} (hh : boundO hi len len = some h) (hl : boundO lo h 0 = some l) (h1 : VRo m lo cl) (h2 : VRo m hi ch) (hcap : len ≤ cap) (hs : cap = len ∨ ∀ x, hi = some x → ∃ k i, x = .int k i) :
    (Instr.sliceBounds isS len cap cl ch none).run P w = .ok (l, h, cap) w ∧ l ≤ h ∧ h ≤ len := by
  have hh' : boundO hi cap len = some h ∧ h ≤ len := by
    cases hi with
    | none => simp only [boundO] at hh ⊢; cases hh; exact ⟨rfl, Nat.le_refl _⟩
    | some x =>
      simp only [boundO] at hh ⊢
      unfold bound at hh ⊢
      split at hh
      · split at hh
        · rename_i hc
          cases hh
          rw [if_pos (by omega)]
          exact ⟨rfl, by omega⟩
        · cases hh
      · cases hh
  obtain ⟨e1, e2⟩ := boundO_ok (P := P) (w := w) (code := if isS then .sliceAcap else .sliceAlen) hh'.1 hcap h2
  obtain ⟨e3, e4⟩ := boundO_ok (P := P) (w := w) (code := .sliceB) hl (Nat.zero_le _) h1
  refine ⟨?_, e4, hh'.2⟩
  unfold Instr.sliceBounds
  cases ch <;> cases cl <;> simp only [Sem.run_pure] at e1 e3 <;> simp_all

theorem sliceV_ok {P : Program} {C : Cx} (hti : ∀ t i, C.ti t = some i → mkTi P t = some i) {m : Mp} {w : World} {t : Nat} {x v : AV} {c : Value} {lo hi : Option AV} {cl ch : Option Value} (h : sliceV C t x lo hi = some v) (hx : VR m x c) (h1 : VRo m lo cl) (h2 : VRo m hi ch) (hdom : ∀ r v B N, m r v = some (B, N) → v ≤ N) :
    ∃ e, (Instr.sliceAt t c cl ch none).run P w = .ok e w ∧ VR m v e := by
  unfold sliceV at h
  cases ht : C.ti t with
  | none => rw [ht] at h; cases h
  | some i =>
    rw [ht] at h
    simp only at h
    have hi' := hti _ _ ht
    split at h
    · rename_i s hk
      simp only [VR] at hx
      obtain ⟨s, rfl, rfl⟩ := hx
      cases hb : boundO hi (s.data.toList.map (·.toNat)).length (s.data.toList.map (·.toNat)).length with
      | none => rw [hb] at h; cases h
      | some hh =>
        rw [hb] at h
        simp only at h
        cases hb2 : boundO lo hh 0 with
        | none => rw [hb2] at h; cases h
        | some l =>
          rw [hb2] at h
          cases h
          have hsz : (s.data.toList.map (·.toNat)).length = s.size := by simp
          rw [hsz] at hb
          obtain ⟨e1, e2, e3⟩ := bounds_ok (P := P) (w := w) (isS := false) hb hb2 h1 h2 (Nat.le_refl _) (.inl rfl)
          refine ⟨.string (s.extract l hh), ?_, ?_⟩
          · simp [Instr.sliceAt, Instr.slice, run_underlying (ti_string hi' hk), e1]
          · simp only [VR]
            refine ⟨_, rfl, ?_⟩
            rw [ByteArray.data_extract, Array.toList_extract]
            simp [List.extract, List.map_drop, List.map_take, List.drop_take]
    · rename_i r v' off len sz hk
      simp only [VR] at hx
      obtain ⟨B, N, cap, hm, hb1, hb2, hb3, rfl⟩ := hx
      cases hb : boundO hi len len with
      | none => rw [hb] at h; cases h
      | some hh =>
        rw [hb] at h
        simp only at h
        cases hbl : boundO lo hh 0 with
        | none => rw [hbl] at h; cases h
        | some l =>
          rw [hbl] at h
          simp only at h
          unfold sizeOfT at h
          cases he : C.ti i.elem with
          | none => rw [he] at h; cases h
          | some j =>
            rw [he] at h
            simp only [Option.map_some] at h
            split at h
            · rename_i hc
              cases h
              obtain ⟨hz, hlt, hpos⟩ := hc
              have hint : ∀ x, hi = some x → ∃ k i, x = .int k i := by
                intro x hx
                subst hx
                simp only [boundO, bound] at hb
                split at hb
                · exact ⟨_, _, rfl⟩
                · cases hb
              obtain ⟨e1, e2, e3⟩ := bounds_ok (P := P) (w := w) (isS := true) hb hbl h1 h2 hb2 (.inr hint)
              refine ⟨.slice (some ⟨B, off + l * sz, none⟩) (hh - l) (cap - l), ?_, ?_⟩
              · have hne : ¬ cap = l := by omega
                have hsz := ti_size (hti _ _ he) w
                rw [hz] at hsz
                simp [Instr.sliceAt, Instr.slice, run_underlying (ti_slice hi' hk), e1, hsz, hne, addr_add]
              · simp only [VR]
                have q1 : l * sz + (hh - l) * sz = hh * sz := by rw [← Nat.add_mul]; congr 1; omega
                have q2 : hh * sz ≤ len * sz := Nat.mul_le_mul_right _ e3
                have q3 : l * sz + (cap - l) * sz = cap * sz := by rw [← Nat.add_mul]; congr 1; omega
                exact ⟨B, N, cap - l, hm, by omega, by omega, by omega, rfl⟩
            · cases h
    · rename_i n sz cells hk
      simp only [VR] at hx
      obtain ⟨hcl, a, cap, rfl, hb2, hnil, hfr⟩ := hx
      cases hb : boundO hi n n with
      | none => rw [hb] at h; cases h
      | some hh =>
        rw [hb] at h
        simp only at h
        cases hbl : boundO lo hh 0 with
        | none => rw [hbl] at h; cases h
        | some l =>
          rw [hbl] at h
          simp only at h
          unfold sizeOfT at h
          cases he : C.ti i.elem with
          | none => rw [he] at h; cases h
          | some j =>
            rw [he] at h
            simp only [Option.map_some] at h
            split at h
            · rename_i hz
              cases h
              have hint : ∀ x, hi = some x → ∃ k i, x = .int k i := by
                intro x hx
                subst hx
                simp only [boundO, bound] at hb
                split at hb
                · exact ⟨_, _, rfl⟩
                · cases hb
              obtain ⟨e1, e2, e3⟩ := bounds_ok (P := P) (w := w) (isS := true) hb hbl h1 h2 hb2 (.inr hint)
              have hsz := ti_size (hti _ _ he) w
              rw [hz] at hsz
              refine ⟨.slice (if cap = l then a else a.map (·.add (l * sz))) (hh - l) (cap - l), ?_, ?_⟩
              · simp [Instr.sliceAt, Instr.slice, run_underlying (ti_slice hi' hk), e1, hsz]
              · simp only [VR]
                have q1 : l * sz + (hh - l) * sz = hh * sz := by rw [← Nat.add_mul]; congr 1; omega
                have q2 : hh * sz ≤ n * sz := Nat.mul_le_mul_right _ e3
                refine ⟨by rw [List.length_take, List.length_drop, hcl]; omega, _, _, rfl, by omega, ?_, ?_⟩
                · intro hnone
                  have : a = none := by
                    by_cases hcap : cap = l
                    · rw [if_pos hcap] at hnone; exact hnone
                    · rw [if_neg hcap] at hnone
                      cases a with
                      | none => rfl
                      | some a => cases hnone
                  obtain ⟨h0, h0'⟩ := hnil this
                  omega
                · intro hpos
                  obtain ⟨id, B, off, all, hid, rfl, hall, hle⟩ := hfr (by omega)
                  refine ⟨id, B, off + l * sz, all, hid, ?_, ?_, by omega⟩
                  · rw [if_neg (by omega)]
                    simp [addr_add]
                  · rw [← hall, List.drop_take, List.take_take, List.drop_drop, Nat.min_eq_left (by omega)]
            · cases h
    · rename_i hk
      simp only [VR] at hx
      subst hx
      cases hb : boundO hi 0 0 with
      | none => rw [hb] at h; cases h
      | some hh =>
        rw [hb] at h
        simp only at h
        cases hbl : boundO lo hh 0 with
        | none => rw [hbl] at h; cases h
        | some l =>
          rw [hbl] at h
          simp only at h
          unfold sizeOfT at h
          cases he : C.ti i.elem with
          | none => rw [he] at h; cases h
          | some j =>
            rw [he] at h
            cases h
            obtain ⟨e1, e2, e3⟩ := bounds_ok (P := P) (w := w) (isS := true) hb hbl h1 h2 (Nat.le_refl _) (.inl rfl)
            obtain rfl : hh = 0 := by omega
            obtain rfl : l = 0 := by omega
            refine ⟨.slice none 0 0, ?_, by simp only [VR]⟩
            simp [Instr.sliceAt, Instr.slice, run_underlying (ti_slice hi' hk), e1, ti_size (hti _ _ he) w]
    · rename_i r v' off hk
      simp only [VR] at hx
      obtain ⟨B, N, hm, rfl⟩ := hx
      cases hb : boundO hi i.len i.len with
      | none => rw [hb] at h; cases h
      | some hh =>
        rw [hb] at h
        simp only at h
        cases hbl : boundO lo hh 0 with
        | none => rw [hbl] at h; cases h
        | some l =>
          rw [hbl] at h
          simp only at h
          unfold sizeOfT at h
          cases he : C.ti i.elem with
          | none => rw [he] at h; cases h
          | some j =>
            rw [he] at h
            simp only [Option.map_some] at h
            split at h
            · rename_i hc
              cases h
              obtain ⟨hN, hlt, hpos⟩ := hc
              obtain ⟨e1, e2, e3⟩ := bounds_ok (P := P) (w := w) (isS := false) hb hbl h1 h2 (Nat.le_refl _) (.inl rfl)
              refine ⟨.slice (some ⟨B, off + l * j.size, none⟩) (hh - l) (i.len - l), ?_, ?_⟩
              · have hne : ¬ i.len = l := by omega
                simp [Instr.sliceAt, Instr.sureAddr, run_underlying (ti_array hi' hk), e1, ti_size (hti _ _ he) w, hne, addr_add]
              · simp only [VR]
                have q1 : l * j.size + (hh - l) * j.size = hh * j.size := by rw [← Nat.add_mul]; congr 1; omega
                have q2 : hh * j.size ≤ i.len * j.size := Nat.mul_le_mul_right _ e3
                have q3 : l * j.size + (i.len - l) * j.size = i.len * j.size := by rw [← Nat.add_mul]; congr 1; omega
                have := hdom _ _ _ _ hm
                exact ⟨B, N, i.len - l, hm, by omega, by omega, by omega, rfl⟩
            · cases h
    · cases h
end Go.Proofs.Ytfkefelgjbfkjaa.Am

/-! Each operation of the abstract machine tells what Go's machine does. Sixth part: addresses, fields, elements, values made of parts. -/
set_option linter.unusedVariables false
set_option linter.unusedSimpArgs false
namespace Go.Proofs.Ytfkefelgjbfkjaa.Am
open Go

theorem op_fieldAddr {P : Program} {C : Cx} (hti : ∀ t i, C.ti t = some i → mkTi P t = some i) {m : Mp} {w : World} {s f : Nat} {i : Ti} {r v off o t z : Nat} {c : Value} (hs : C.ti s = some i) (hk : i.kind = .struct) (hf : i.fields[f]? = some (o, t)) (hz : sizeOfT C t = some z) (h0 : z ≠ 0) (hp : VR m (.ptr r v off) c) :
    ∃ e, (Instr.fieldAt s c f).run P w = .ok e w ∧ VR m (.ptr r v (off + o)) e := by
  simp only [VR] at hp
  obtain ⟨B, N, hm, rfl⟩ := hp
  obtain ⟨fs, hu, hfs⟩ := ti_struct (hti _ _ hs) hk
  rw [hfs, List.getElem?_map] at hf
  cases hg : fs.toList[f]? with
  | none => rw [hg] at hf; cases hf
  | some fd =>
    rw [hg] at hf
    cases hf
    unfold sizeOfT at hz
    cases ht : C.ti fd.type with
    | none => rw [ht] at hz; cases hz
    | some j =>
      rw [ht] at hz
      cases hz
      have hsz := ti_size (hti _ _ ht) w
      have hg' : fs[f]? = some fd := by rw [← Array.getElem?_toList]; exact hg
      refine ⟨.pointer (some ⟨B, off + fd.offset, none⟩), ?_, by simp only [VR]; exact ⟨B, N, hm, rfl⟩⟩
      simp [Instr.fieldAt, Instr.sureAddr, run_underlying hu, hg', fieldPlace, hsz, h0, addr_add]
theorem part_ok {P : Program} {C : Cx} (hti : ∀ t i, C.ti t = some i → mkTi P t = some i) {m : Mp} {w : World} {t o : Nat} {j : Ti} {cs : List AV} {ys : Array Value} {v : AV} (ht : C.ti t = some j) (hv : VRs m cs ys.toList)
    (h : (if j.kind.isAgg then some (.agg ((cs.drop o).take j.size)) else cs[o]?) = some v) : ∃ e, (part t ys o).run P w = .ok e w ∧ VR m v e := by
  have ha := ti_agg (hti _ _ ht) w
  have hsz := ti_size (hti _ _ ht) w
  cases hk : j.kind.isAgg with
  | true =>
    rw [hk] at h ha
    simp only [if_true] at h
    cases h
    refine ⟨.agg (ys.extract o (o + j.size)), by simp [part, ha, hsz], ?_⟩
    simp only [VR]
    refine ⟨_, rfl, ?_⟩
    rw [Array.toList_extract]
    have := VRs.take j.size (VRs.drop o hv)
    simpa [List.extract, List.drop_take, Nat.add_sub_cancel_left] using this
  | false =>
    rw [hk] at h ha
    simp only [Bool.false_eq_true, if_false] at h
    obtain ⟨c, hc, hvc⟩ := VRs.get hv _ _ h
    rw [Array.getElem?_toList] at hc
    exact ⟨c, by simp [part, ha, hc], hvc⟩
theorem op_field {P : Program} {C : Cx} (hti : ∀ t i, C.ti t = some i → mkTi P t = some i) {m : Mp} {w : World} {t f o u : Nat} {i j : Ti} {cs : List AV} {c : Value} {v : AV} (ht : C.ti t = some i) (hk : i.kind = .struct) (hf : i.fields[f]? = some (o, u)) (hj : C.ti u = some j) (hx : VR m (.agg cs) c)
    (h : (if j.kind.isAgg then some (.agg ((cs.drop o).take j.size)) else cs[o]?) = some v) : ∃ e, (Instr.field t c f).run P w = .ok e w ∧ VR m v e := by
  simp only [VR] at hx
  obtain ⟨ys, rfl, hv⟩ := hx
  obtain ⟨fs, hu, hfs⟩ := ti_struct (hti _ _ ht) hk
  rw [hfs, List.getElem?_map] at hf
  cases hg : fs.toList[f]? with
  | none => rw [hg] at hf; cases hf
  | some fd =>
    rw [hg] at hf
    cases hf
    have hg' : fs[f]? = some fd := by rw [← Array.getElem?_toList]; exact hg
    obtain ⟨e, he, hve⟩ := part_ok (w := w) hti hj hv h
    exact ⟨e, by simp [Instr.field, run_underlying hu, hg', asAgg, he], hve⟩
theorem op_indexAddr_slice {P : Program} {C : Cx} (hti : ∀ t i, C.ti t = some i → mkTi P t = some i) {m : Mp} {w : World} {t : Nat} {i : Ti} {r v off len sz z : Nat} {k : IntKind} {n : Int} {c d : Value} (ht : C.ti t = some i) (hk : i.kind = .slice) (hz : sizeOfT C i.elem = some z) (e0 : z = sz) (h1 : 0 ≤ n) (h2 : n < len)
    (hx : VR m (.slice r v off len sz) c) (hd : VR m (.int k n) d) : ∃ e, (Instr.indexAt t c d).run P w = .ok e w ∧ VR m (.ptr r v (off + n.toNat * sz)) e := by
  simp only [VR] at hx hd
  obtain ⟨B, N, cap, hm, _, _, _, rfl⟩ := hx
  subst hd
  subst e0
  have hu := ti_slice (hti _ _ ht) hk
  unfold sizeOfT at hz
  cases he : C.ti i.elem with
  | none => rw [he] at hz; cases hz
  | some j =>
    rw [he] at hz
    cases hz
    have hsz := ti_size (hti _ _ he) w
    refine ⟨.pointer (some ⟨B, off + n.toNat * j.size, none⟩), ?_, by simp only [VR]; exact ⟨B, N, hm, rfl⟩⟩
    simp [Instr.indexAt, asIntOf, run_underlying hu, h1, h2, hsz, addr_add]
theorem op_fieldAddr_v {P : Program} {C : Cx} (hti : ∀ t i, C.ti t = some i → mkTi P t = some i) {m : Mp} {w : World} {s f : Nat} {i : Ti} {cells : List AV} {o t z : Nat} {c : Value} (hs : C.ti s = some i) (hk : i.kind = .struct) (hf : i.fields[f]? = some (o, t)) (hz : sizeOfT C t = some z) (h0 : z ≠ 0) (hl : o + z ≤ cells.length) (hp : VR m (.vptr cells) c) :
    ∃ e, (Instr.fieldAt s c f).run P w = .ok e w ∧ VR m (.vptr (cells.drop o)) e := by
  simp only [VR] at hp
  obtain ⟨id, B, off, all, hid, rfl, hall, hle⟩ := hp
  obtain ⟨fs, hu, hfs⟩ := ti_struct (hti _ _ hs) hk
  rw [hfs, List.getElem?_map] at hf
  cases hg : fs.toList[f]? with
  | none => rw [hg] at hf; cases hf
  | some fd =>
    rw [hg] at hf
    cases hf
    unfold sizeOfT at hz
    cases ht : C.ti fd.type with
    | none => rw [ht] at hz; cases hz
    | some j =>
      rw [ht] at hz
      cases hz
      have hsz := ti_size (hti _ _ ht) w
      have hg' : fs[f]? = some fd := by rw [← Array.getElem?_toList]; exact hg
      refine ⟨.pointer (some ⟨B, off + fd.offset, none⟩), ?_, ?_⟩
      · simp [Instr.fieldAt, Instr.sureAddr, run_underlying hu, hg', fieldPlace, hsz, h0, addr_add]
      · simp only [VR]
        refine ⟨id, B, _, all, hid, rfl, ?_, by rw [List.length_drop]; omega⟩
        have e : cells.drop fd.offset = ((all.drop off).take cells.length).drop fd.offset := by rw [hall]
        rw [List.length_drop]
        refine Eq.trans ?_ e.symm
        rw [List.drop_take, List.drop_drop]
theorem op_indexAddr_vec {P : Program} {C : Cx} (hti : ∀ t i, C.ti t = some i → mkTi P t = some i) {m : Mp} {w : World} {t : Nat} {i : Ti} {q sz z : Nat} {cells : List AV} {k : IntKind} {n : Int} {c d : Value} (ht : C.ti t = some i) (hk : i.kind = .slice) (hz : sizeOfT C i.elem = some z) (e0 : z = sz) (h1 : 0 ≤ n) (h2 : n < q)
    (hx : VR m (.vec q sz cells) c) (hd : VR m (.int k n) d) : ∃ e, (Instr.indexAt t c d).run P w = .ok e w ∧ VR m (.vptr ((cells.drop (n.toNat * sz)).take sz)) e := by
  simp only [VR] at hx hd
  obtain ⟨hcl, a, cap, rfl, hcap, _, hfr⟩ := hx
  obtain ⟨id, B, off, all, hid, rfl, hall, hle⟩ := hfr (by omega)
  subst hd
  subst e0
  have hu := ti_slice (hti _ _ ht) hk
  unfold sizeOfT at hz
  cases he : C.ti i.elem with
  | none => rw [he] at hz; cases hz
  | some j =>
    rw [he] at hz
    have hz : j.size = z := by simpa using hz
    subst hz
    have hsz := ti_size (hti _ _ he) w
    have q1 : (n.toNat + 1) * j.size ≤ q * j.size := Nat.mul_le_mul_right _ (by omega)
    rw [Nat.add_mul, Nat.one_mul] at q1
    refine ⟨.pointer (some ⟨B, off + n.toNat * j.size, none⟩), ?_, ?_⟩
    · simp [Instr.indexAt, asIntOf, run_underlying hu, h1, h2, hsz, addr_add]
    · simp only [VR]
      have hlen : ((cells.drop (n.toNat * j.size)).take j.size).length = j.size := by rw [List.length_take, List.length_drop, hcl]; omega
      refine ⟨id, B, _, all, hid, rfl, ?_, by rw [hlen]; omega⟩
      rw [hlen, ← hall, List.drop_take, List.take_take, List.drop_drop, Nat.min_eq_left (by omega)]
theorem own_slice {m : Mp} {r len sz : Nat} {c : Value} (h : VR m (.own r len sz) c) (hl : 0 < len) : VR m (.slice r (len * sz) 0 len sz) c := by
  simp only [VR] at h ⊢
  rcases h with ⟨h0, _⟩ | ⟨B, N, cap, hm, h1, h2, rfl⟩
  · omega
  · exact ⟨B, N, cap, hm, by omega, h1, by omega, rfl⟩
theorem slice_own {m : Mp} {r v len sz : Nat} {c : Value} (h : VR m (.slice r v 0 len sz) c) (hv : v = len * sz) : VR m (.own r len sz) c := by
  subst hv
  simp only [VR] at h ⊢
  obtain ⟨B, N, cap, hm, h1, h2, h3, rfl⟩ := h
  exact .inr ⟨B, N, cap, hm, h2, by omega, rfl⟩
theorem op_indexAddr_array {P : Program} {C : Cx} (hti : ∀ t i, C.ti t = some i → mkTi P t = some i) {m : Mp} {w : World} {t : Nat} {i : Ti} {r v off z : Nat} {k : IntKind} {n : Int} {c d : Value} (ht : C.ti t = some i) (hk : i.kind = .array) (hz : sizeOfT C i.elem = some z) (h1 : 0 ≤ n) (h2 : n < i.len)
    (hx : VR m (.ptr r v off) c) (hd : VR m (.int k n) d) : ∃ e, (Instr.indexAt t c d).run P w = .ok e w ∧ VR m (.ptr r v (off + n.toNat * z)) e := by
  simp only [VR] at hx hd
  obtain ⟨B, N, hm, rfl⟩ := hx
  subst hd
  have hu := ti_array (hti _ _ ht) hk
  unfold sizeOfT at hz
  cases he : C.ti i.elem with
  | none => rw [he] at hz; cases hz
  | some j =>
    rw [he] at hz
    cases hz
    have hsz := ti_size (hti _ _ he) w
    refine ⟨.pointer (some ⟨B, off + n.toNat * j.size, none⟩), ?_, by simp only [VR]; exact ⟨B, N, hm, rfl⟩⟩
    simp [Instr.indexAt, asIntOf, run_underlying hu, h1, h2, hsz, addr_add, Instr.sureAddr]
theorem op_index_string {P : Program} {C : Cx} (hti : ∀ t i, C.ti t = some i → mkTi P t = some i) {m : Mp} {w : World} {t b : Nat} {i : Ti} {s : List Nat} {k : IntKind} {n : Int} {c d : Value} (ht : C.ti t = some i) (hk : i.kind = .string) (h1 : 0 ≤ n) (h2 : s[n.toNat]? = some b)
    (hx : VR m (.str s) c) (hd : VR m (.int k n) d) : ∃ e, (Instr.index t c d).run P w = .ok e w ∧ VR m (.int .u8 b) e := by
  simp only [VR] at hx hd
  obtain ⟨u, rfl, rfl⟩ := hx
  subst hd
  have hu := ti_string (hti _ _ ht) hk
  rw [List.getElem?_map, Array.getElem?_toList] at h2
  cases hg : u.data[n.toNat]? with
  | none => rw [hg] at h2; cases h2
  | some x =>
    rw [hg] at h2
    cases h2
    have hg' : u[n.toNat]? = some x := by
      obtain ⟨hlt, hx⟩ := Array.getElem?_eq_some_iff.1 hg
      have hl : n.toNat < u.size := hlt
      rw [getElem?_pos u n.toNat hl]
      exact congrArg some hx
    refine ⟨.int .u8 x.toNat, ?_, by simp only [VR]⟩
    simp [Instr.index, asIntOf, run_underlying hu, h1, hg']
theorem op_index_array {P : Program} {C : Cx} (hti : ∀ t i, C.ti t = some i → mkTi P t = some i) {m : Mp} {w : World} {t : Nat} {i j : Ti} {cs : List AV} {k : IntKind} {n : Int} {c d : Value} {v : AV} (ht : C.ti t = some i) (hk : i.kind = .array) (hj : C.ti i.elem = some j) (h1 : 0 ≤ n) (h2 : n < i.len)
    (hx : VR m (.agg cs) c) (hd : VR m (.int k n) d) (h : (if j.kind.isAgg then some (.agg ((cs.drop (n.toNat * j.size)).take j.size)) else cs[n.toNat * j.size]?) = some v) : ∃ e, (Instr.index t c d).run P w = .ok e w ∧ VR m v e := by
  simp only [VR] at hx hd
  obtain ⟨ys, rfl, hv⟩ := hx
  subst hd
  have hu := ti_array (hti _ _ ht) hk
  have hsz := ti_size (hti _ _ hj) w
  obtain ⟨e, he, hve⟩ := part_ok (w := w) hti hj hv h
  exact ⟨e, by simp [Instr.index, asIntOf, run_underlying hu, h1, h2, hsz, he], hve⟩
theorem op_extract {P : Program} {m : Mp} {w : World} {vs : List AV} {ix : Nat} {v : AV} {c : Value} (h : vs[ix]? = some v) (hx : VR m (.tuple vs) c) : ∃ e, (Instr.extract c ix).run P w = .ok e w ∧ VR m v e := by
  simp only [VR] at hx
  obtain ⟨ys, rfl, hv⟩ := hx
  obtain ⟨e, he, hve⟩ := VRs.get hv _ _ h
  rw [Array.getElem?_toList] at he
  exact ⟨e, by simp [Instr.extract, he], hve⟩
theorem op_makeInterface {P : Program} {C : Cx} (hti : ∀ t i, C.ti t = some i → mkTi P t = some i) {m : Mp} {w : World} {t : Nat} {i : Ti} {x : AV} {c : Value} (ht : C.ti t = some i) (hk : i.kind ≠ .iface) (hx : VR m x c) : ∃ e, (Instr.makeInterface t c).run P w = .ok e w ∧ VR m (.iface t x) e := by
  obtain ⟨j, d, h1, hu, _⟩ := mkTi_spec (hti _ _ ht)
  rcases (ti_iface (hti _ _ ht)).2 with h | h
  · refine ⟨.iface t c, ?_, by simp only [VR]; exact ⟨c, rfl, hx⟩⟩
    cases d <;> first | (simp [Instr.makeInterface, run_underlying hu]; done) | exact absurd hu (h _)
  · exact absurd h hk
theorem op_typeAssert {P : Program} {C : Cx} (hti : ∀ t i, C.ti t = some i → mkTi P t = some i) {m : Mp} {w : World} {T xt : Nat} {i : Ti} {x : AV} {c : Value} (ok : Bool) (hT : C.ti T = some i) (hk : i.kind ≠ .iface) (hx : VR m (.iface T x) c) :
    ∃ e, (Instr.typeAssert c xt T ok).run P w = .ok e w ∧ VR m (if ok then .tuple [x, .bool true] else x) e := by
  obtain ⟨j, d, h1, hu, _⟩ := mkTi_spec (hti _ _ hT)
  simp only [VR] at hx
  obtain ⟨y, rfl, hv⟩ := hx
  rcases (ti_iface (hti _ _ hT)).2 with h | h
  · refine ⟨if ok then .tuple #[y, .bool true] else y, ?_, ?_⟩
    · cases d <;> first | exact absurd hu (h _) | (cases ok <;> simp [Instr.typeAssert, run_underlying hu])
    · cases ok with
      | true => simp [VR, VRs, hv]
      | false => simpa using hv
  · exact absurd h hk
end Go.Proofs.Ytfkefelgjbfkjaa.Am
