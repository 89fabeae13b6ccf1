/- Each operation of the abstract machine tells what Go's machine does. Seventh part: values and slices made of parts, lengths, least and greatest. -/
import Derived.Test.YtnikdnchoahngaaAm10
set_option linter.unusedVariables false
set_option linter.unusedSimpArgs false
namespace Go.Proofs.Ytnikdnchoahngaa.Am
open Go

theorem zipIdx_foldl (off : Nat) : ∀ (l : List Value) (k : Nat) (cells : Array Value), (l.zipIdx k).foldl (fun cs p => cs.setIfInBounds (off + p.2) p.1) cells = putA cells (off + k) l
  | [], _, _ => rfl
  | v :: l, k, cells => by
    rw [List.zipIdx_cons, List.foldl_cons, zipIdx_foldl off l (k + 1)]
    rw [putA, Nat.add_assoc]
theorem fill_ok {m : Mp} {place : Nat → Option (Nat × Nat)} : ∀ (parts : List (Nat × AV)) (ps : List (Nat × Value)) (cells out : List AV) (cs : Array Value), VRs m cells cs.toList → (parts.map (·.1) = ps.map (·.1)) → VRs m (parts.map (·.2)) (ps.map (·.2)) →
    fillL place cells parts = some out → ∃ ds, Instr.fill place cs ps = some ds ∧ VRs m out ds.toList
  | [], ps, cells, out, cs, h, e1, e2, hf => by
    simp only [fillL] at hf
    cases hf
    cases ps with
    | nil => exact ⟨cs, rfl, h⟩
    | cons p ps => simp at e1
  | (i, v) :: parts, ps, cells, out, cs, h, e1, e2, hf => by
    cases ps with
    | nil => simp at e1
    | cons p ps =>
      obtain ⟨i', c⟩ := p
      simp only [List.map_cons, List.cons.injEq] at e1
      obtain ⟨rfl, e1⟩ := e1
      simp only [List.map_cons, VRs] at e2
      obtain ⟨y, ys, e, hv, e2⟩ := e2
      cases e
      simp only [fillL] at hf
      cases hp : place i with
      | none => rw [hp] at hf; cases hf
      | some os =>
        obtain ⟨off, size⟩ := os
        rw [hp] at hf
        simp only at hf
        split at hf
        · rename_i hc
          obtain ⟨h1, h2, h3⟩ := hc
          have hcs := cellsOf_ok hv h1
          have hl := VRs.len hcs
          have hl2 := VRs.len h
          simp only [Array.length_toList] at hl hl2
          have := VRs.put off (cs := cs) cs.size (by rw [List.take_of_length_le (by simp)]; exact h) hcs
          rw [List.take_of_length_le (by simp [putA_size])] at this
          obtain ⟨ds, hd, hr⟩ := fill_ok parts ps _ out (putA cs off c.cells.toList) this e1 e2 hf
          refine ⟨ds, ?_, hr⟩
          simp only [Instr.fill, hp]
          rw [if_neg (by simp; omega)]
          rw [← hd]
          congr 1
          have := zipIdx_foldl off c.cells.toList 0 cs
          rw [Nat.add_zero] at this
          rw [← this, ← Array.foldl_toList]
          simp
        · cases hf
theorem parts_ok {m : Mp} {env : Env} {a : Act} (fr : FR m env a.tmps) (parts : Array (Nat × Operand)) :
    (parts.toList.map fun p => (p.1, opnd env p.2)).map (·.1) = (parts.map fun p => (p.1, a.eval p.2)).toList.map (·.1) ∧ VRs m ((parts.toList.map fun p => (p.1, opnd env p.2)).map (·.2)) ((parts.map fun p => (p.1, a.eval p.2)).toList.map (·.2)) := by
  constructor
  · simp [List.map_map, Function.comp_def]
  · simp only [Array.toList_map, List.map_map, Function.comp_def]
    have := opnds_ok fr (parts.toList.map (·.2))
    simpa [List.map_map, Function.comp_def] using this
theorem fieldsZ_ok {P : Program} {C : Cx} (hti : ∀ t i, C.ti t = some i → mkTi P t = some i) : ∀ (fs : List Field) (l : List (Nat × Nat)), fieldsZ C (fs.map fun f => (f.offset, f.type)) = some l → ∀ w : World, (fs.mapM (fun f => do pure (f.offset, ← Go.sizeOf f.type) : Field → Sem (Nat × Nat))).run P w = .ok l w
  | [], l, h, w => by simp only [List.map_nil, fieldsZ] at h; cases h; simp
  | f :: fs, l, h, w => by
    simp only [List.map_cons, fieldsZ] at h
    cases h1 : sizeOfT C f.type with
    | none => rw [h1] at h; cases h
    | some z =>
      cases h2 : fieldsZ C (fs.map fun f => (f.offset, f.type)) with
      | none => rw [h1, h2] at h; cases h
      | some l' =>
        rw [h1, h2] at h
        cases h
        have ih := fieldsZ_ok hti fs l' h2 w
        unfold sizeOfT at h1
        cases ht : C.ti f.type with
        | none => rw [ht] at h1; cases h1
        | some j =>
          rw [ht] at h1
          cases h1
          simp only [List.mapM_cons, Sem.run_bind, ti_size (hti _ _ ht) w, Result.andThen_ok, Sem.run_pure, ih]
theorem op_build_struct {P : Program} {C : Cx} (hti : ∀ t i, C.ti t = some i → mkTi P t = some i) {m : Mp} {w : World} {t : Nat} {i : Ti} {z out : List AV} {fs : List (Nat × Nat)} {parts : List (Nat × AV)} {ps : Array (Nat × Value)} (ht : C.ti t = some i) (hz : i.zero = some z) (hk : i.kind = .struct) (hf : fieldsZ C i.fields = some fs)
    (h : fillL (fun k => fs[k]?) z parts = some out) (e1 : parts.map (·.1) = ps.toList.map (·.1)) (e2 : VRs m (parts.map (·.2)) (ps.toList.map (·.2))) : ∃ e, (Instr.build t ps).run P w = .ok e w ∧ VR m (.agg out) e := by
  obtain ⟨c, hc, rfl⟩ := ti_zero (hti _ _ ht) hz w
  obtain ⟨fds, hu, hfs⟩ := ti_struct (hti _ _ ht) hk
  rw [hfs] at hf
  have hm := fieldsZ_ok hti _ _ hf w
  obtain ⟨ds, hd, hr⟩ := fill_ok _ _ _ _ _ (VRs_ofVal m c.cells.toList) e1 e2 h
  refine ⟨.agg ds, ?_, by simp only [VR]; exact ⟨_, rfl, hr⟩⟩
  have hm' : (fds.mapM (fun f => do pure (f.offset, ← Go.sizeOf f.type) : Field → Sem (Nat × Nat))).run P w = .ok fs.toArray w := by
    rw [Array.mapM_eq_mapM_toList, Sem.run_map, hm]
    rfl
  have hd' : Instr.fill (fun k => fs.toArray[k]?) c.cells ps.toList = some ds := by simpa using hd
  simp only [Instr.build, Sem.run_bind, hc, Result.andThen_ok, run_underlying hu, hm', hd', Sem.run_pure]
theorem op_build_array {P : Program} {C : Cx} (hti : ∀ t i, C.ti t = some i → mkTi P t = some i) {m : Mp} {w : World} {t n : Nat} {i : Ti} {z out : List AV} {parts : List (Nat × AV)} {ps : Array (Nat × Value)} (ht : C.ti t = some i) (hz : i.zero = some z) (hk : i.kind = .array) (hn : sizeOfT C i.elem = some n)
    (h : fillL (fun k => some (k * n, n)) z parts = some out) (e1 : parts.map (·.1) = ps.toList.map (·.1)) (e2 : VRs m (parts.map (·.2)) (ps.toList.map (·.2))) : ∃ e, (Instr.build t ps).run P w = .ok e w ∧ VR m (.agg out) e := by
  obtain ⟨c, hc, rfl⟩ := ti_zero (hti _ _ ht) hz w
  have hu := ti_array (hti _ _ ht) hk
  obtain ⟨ds, hd, hr⟩ := fill_ok _ _ _ _ _ (VRs_ofVal m c.cells.toList) e1 e2 h
  refine ⟨.agg ds, ?_, by simp only [VR]; exact ⟨_, rfl, hr⟩⟩
  unfold sizeOfT at hn
  cases he : C.ti i.elem with
  | none => rw [he] at hn; cases hn
  | some j =>
    rw [he] at hn
    cases hn
    simp only [Instr.build, Sem.run_bind, hc, Result.andThen_ok, run_underlying hu, ti_size (hti _ _ he) w, hd, Sem.run_pure]

theorem rep_length (z : List AV) : ∀ n, (rep z n).length = n * z.length
  | 0 => by simp [rep]
  | n + 1 => by simp [rep, rep_length z n, Nat.add_mul, Nat.add_comm]
theorem rep_get (z : List AV) (hz : 0 < z.length) : ∀ (n i : Nat), i < n * z.length → (rep z n)[i]? = z[i % z.length]?
  | 0, i, h => by simp at h
  | n + 1, i, h => by
    rw [rep]
    by_cases hi : i < z.length
    · rw [List.getElem?_append_left hi, Nat.mod_eq_of_lt hi]
    · rw [List.getElem?_append_right (by omega), rep_get z hz n (i - z.length) (by rw [Nat.add_mul] at h; omega)]
      congr 1
      rw [← Nat.mod_eq_sub_mod (by omega)]
theorem VRs_rep {m : Mp} {c : Value} {n sz : Nat} (hsz : (c.cells.toList.map ofVal).length = sz) (h0 : 0 < sz) : VRs m (rep (c.cells.toList.map ofVal) n) ((Array.range (n * sz)).map (c.cells[· % c.cells.size]!)).toList := by
  have key : rep (c.cells.toList.map ofVal) n = (((Array.range (n * sz)).map (c.cells[· % c.cells.size]!)).toList).map ofVal := by
    apply List.ext_getElem?
    intro i
    by_cases hi : i < n * sz
    · rw [rep_get _ (by omega) n i (by rw [hsz]; exact hi), hsz]
      have hs : c.cells.size = sz := by simpa using hsz
      have hlt : i % sz < c.cells.size := by rw [hs]; exact Nat.mod_lt _ h0
      simp [hi, hs, List.getElem?_map]
      rw [hs] at hlt
      simp [hs, hlt]
    · rw [List.getElem?_eq_none (by rw [rep_length, hsz]; omega), List.getElem?_eq_none (by simp; omega)]
  rw [key]
  exact VRs_ofVal m _
theorem op_buildSlice {P : Program} {C : Cx} (hti : ∀ t i, C.ti t = some i → mkTi P t = some i) {m : Mp} {H H' : Hp} {w : World} {base : Nat} {t len : Nat} {i e : Ti} {z out : List AV} {parts : List (Nat × AV)} {ps : Array (Nat × Value)} {r v o : Nat} (ht : C.ti t = some i) (hk : i.kind = .slice) (he : C.ti i.elem = some e) (hz : e.zero = some z) (h1 : z.length = e.size) (h2 : 0 < e.size) (h3 : len * e.size ≤ 2 ^ 24)
    (h : fillL (fun k => some (k * e.size, e.size)) (rep z len) parts = some out) (hl : out.length = len * e.size) (e1 : parts.map (·.1) = ps.toList.map (·.1)) (e2 : VRs m (parts.map (·.2)) (ps.toList.map (·.2))) (ha : alloc1 H out = some (.ptr r v o, H')) (rw : RW m H w base) :
    Good P (do pure (.value (← Instr.buildSlice t len ps))) m w base (.slice r v 0 len e.size) H' := by
  obtain ⟨c, hc, rfl⟩ := ti_zero (hti _ _ he) hz w
  have hu := ti_slice (hti _ _ ht) hk
  obtain ⟨ds, hd, hr⟩ := fill_ok _ _ _ _ _ (VRs_rep (m := m) (n := len) h1 h2) e1 e2 h
  have hl2 := VRs.len hr
  simp only [Array.length_toList] at hl2
  obtain ⟨hp, m', q1, q2, q3⟩ := alloc1_ok ha rw ds i.elem (0, 0) (free0 _) (by omega) (by rw [List.take_of_length_le (by simp; omega)]; exact hr)
  cases hp
  refine ⟨m', _, q2, q3, .inl ⟨.slice (some ⟨w.heap.size, 0, none⟩) len len, ?_, ?_⟩⟩
  · have hzs : c.cells.size = e.size := by simpa using h1
    have hbig : ¬ len * e.size > 2 ^ 24 := by omega
    by_cases h4 : len = 0
    · subst h4
      have hr0 : Array.range 0 = #[] := Array.ext (by simp) (fun i h1 h2 => by simp at h2)
      have hd' : Instr.fill (fun i => some (i * e.size, e.size)) #[] ps.toList = some ds := by simpa [hr0] using hd
      simp only [Instr.buildSlice, Sem.run_bind, run_underlying hu, Result.andThen_ok, ti_size (hti _ _ he) w, if_neg hbig, Sem.run_pure, Nat.zero_mul, if_true]
      simp [newRow, newObj, Sem.run, wnew, hr0, hd']
    · have hne : ¬ len * e.size = 0 := Nat.ne_of_gt (Nat.mul_pos (by omega) h2)
      simp only [Instr.buildSlice, Sem.run_bind, run_underlying hu, Result.andThen_ok, ti_size (hti _ _ he) w, if_neg hbig, Sem.run_pure, if_neg hne, hc, hd]
      simp [newRow, newObj, Sem.run, wnew]
  · simp only [VR]
    exact ⟨_, _, len, q1, by omega, Nat.le_refl _, by omega, rfl⟩
theorem op_makeSlice {P : Program} {C : Cx} (hti : ∀ t i, C.ti t = some i → mkTi P t = some i) {m : Mp} {H H' : Hp} {w : World} {base : Nat} {t : Nat} {i e : Ti} {z : List AV} {k k' : IntKind} {n : Int} {c d : Value} {r v o : Nat} (ht : C.ti t = some i) (hk : i.kind = .slice) (he : C.ti i.elem = some e) (hz : e.zero = some z) (h1 : z.length = e.size) (h2 : 0 < e.size) (h3 : 0 < n) (h4 : n * e.bytes ≤ 2 ^ 40) (h5 : n ≤ 2 ^ 40)
    (hc : VR m (.int k n) c) (hd : VR m (.int k' n) d) (ha : alloc1 H (rep z n.toNat) = some (.ptr r v o, H')) (rw : RW m H w base) : Good P (do pure (.value (← Instr.makeSlice t c d))) m w base (.slice r v 0 n.toNat e.size) H' := by
  simp only [VR] at hc hd
  subst hc; subst hd
  obtain ⟨c, hc, rfl⟩ := ti_zero (hti _ _ he) hz w
  obtain ⟨j, hj, hjs, hjb, _⟩ := ti_info (hti _ _ he) w
  have hu := ti_slice (hti _ _ ht) hk
  have hr := VRs_rep (m := m) (n := n.toNat) h1 h2
  have hl2 := VRs.len hr
  have hrl := rep_length (c.cells.toList.map ofVal) n.toNat
  rw [h1] at hrl
  obtain ⟨hp, m', q1, q2, q3⟩ := alloc1_ok ha rw ((Array.range (n.toNat * e.size)).map (c.cells[· % c.cells.size]!)) i.elem (0, 0) (free0 _) (by simp; omega) (by rw [List.take_of_length_le (by simp; omega)]; exact hr)
  cases hp
  have hw : IntKind.i64.wrap n = n := by simp [IntKind.wrap, IntKind.bits, IntKind.signed]; omega
  have hne : ¬ n.toNat * e.size = 0 := Nat.ne_of_gt (Nat.mul_pos (by omega) h2)
  refine ⟨m', _, q2, q3, .inl ⟨.slice (some ⟨w.heap.size, 0, none⟩) n.toNat n.toNat, ?_, ?_⟩⟩
  · have hf1 : ¬ (n < 0) := by omega
    have hb : ¬ ((e.bytes : Int) * n > 2 ^ 48) := by rw [Int.mul_comm]; omega
    simp only [Instr.makeSlice, Sem.run_bind, run_underlying hu, Result.andThen_ok, asInt, asIntOf, Sem.run_pure, hj, hw, hjb, hf1, hb, ti_size (hti _ _ he) w, if_neg hne, hc]
    simp [newRow, newObj, Sem.run, wnew, hf1, hb]
    simp only [ti_size (hti _ _ he) w, Result.andThen_ok, if_neg hne, hc]
    try rfl
  · simp only [VR]
    have : ((Array.range (n.toNat * e.size)).map (c.cells[· % c.cells.size]!)).size = n.toNat * e.size := by simp
    exact ⟨_, _, n.toNat, q1, by omega, Nat.le_refl _, by omega, rfl⟩
theorem op_len_string {P : Program} {C : Cx} (hti : ∀ t i, C.ti t = some i → mkTi P t = some i) {m : Mp} {w : World} {t : Nat} {ts : Array TypeId} {ty : TypeId} {i : Ti} {s : List Nat} {c : Value} (ht : C.ti t = some i) (h0 : ts[0]? = some t) (hk : i.kind = .string) (hx : VR m (.str s) c) :
    ∃ e, (Builtin.len_ ts ty #[c]).run P w = .ok e w ∧ VR m (.int .i64 s.length) e := by
  simp only [VR] at hx
  obtain ⟨u, rfl, rfl⟩ := hx
  have hu := ti_string (hti _ _ ht) hk
  exact ⟨.int .i64 u.size, by simp [Builtin.len_, h0, run_underlying hu, goInt], by simp [VR]⟩
theorem op_len_array {P : Program} {C : Cx} (hti : ∀ t i, C.ti t = some i → mkTi P t = some i) {m : Mp} {w : World} {t : Nat} {ts : Array TypeId} {ty : TypeId} {i : Ti} {c : Value} (ht : C.ti t = some i) (h0 : ts[0]? = some t) (hk : i.kind = .array) :
    ∃ e, (Builtin.len_ ts ty #[c]).run P w = .ok e w ∧ VR m (.int .i64 i.len) e := by
  have hu := ti_array (hti _ _ ht) hk
  exact ⟨.int .i64 i.len, by simp [Builtin.len_, h0, run_underlying hu, goInt], by simp [VR]⟩
theorem op_len_slice {P : Program} {C : Cx} (hti : ∀ t i, C.ti t = some i → mkTi P t = some i) {m : Mp} {w : World} {t : Nat} {ts : Array TypeId} {ty : TypeId} {i : Ti} {c : Value} {a : Option Addr} {n cap : Nat} (ht : C.ti t = some i) (h0 : ts[0]? = some t) (hk : i.kind = .slice) (hx : c = .slice a n cap) :
    ∃ e, (Builtin.len_ ts ty #[c]).run P w = .ok e w ∧ VR m (.int .i64 n) e := by
  subst hx
  have hu := ti_slice (hti _ _ ht) hk
  exact ⟨.int .i64 n, by simp [Builtin.len_, h0, run_underlying hu, goInt], by simp [VR]⟩
end Go.Proofs.Ytnikdnchoahngaa.Am
