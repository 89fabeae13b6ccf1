/- Each operation of the abstract machine tells what Go's machine does. Seventh part: values and slices made of parts, lengths, least and greatest. -/
import Derived.Test.YtfkefelgjbfkjaaBmB
import Derived.Deep.AppendSrc
import Derived.ScopeJumps
import Derived.LoopN
import Derived.Orders
set_option linter.unusedVariables false
set_option linter.unusedSimpArgs false
namespace Go.Proofs.Ytfkefelgjbfkjaa.Am
open Go

theorem zipIdx_foldl (off : Nat) : ∀ (l : List Value) (k : Nat) (cells : Array Value), (l.zipIdx k).foldl (fun cs p => cs.setIfInBounds (off + p.2) p.1) cells = putA cells (off + k) l
  | [], _, _ => rfl
  | v :: l, k, cells => by
    rw [List.zipIdx_cons, List.foldl_cons, zipIdx_foldl off l (k + 1)]
    rw [putA, Nat.add_assoc]
theorem fill_ok {m : Mp} {place : Nat → Option (Nat × Nat)} : ∀ (parts : List (Nat × AV)) (ps : List (Nat × Value)) (cells out : List AV) (cs : Array Value), VRs m cells cs.toList → (parts.map (·.1) = ps.map (·.1)) → VRs m (parts.map (·.2)) (ps.map (·.2)) →
    fillL place cells parts = some out → ∃ ds, Instr.fill place cs ps = some ds ∧ VRs m out ds.toList
  | [], ps, cells, out, cs, h, e1, e2, hf => by
    simp only [fillL] at hf
    cases hf
    cases ps with
    | nil => exact ⟨cs, rfl, h⟩
    | cons p ps => simp at e1
  | (i, v) :: parts, ps, cells, out, cs, h, e1, e2, hf => by
    cases ps with
    | nil => simp at e1
    | cons p ps =>
      obtain ⟨i', c⟩ := p
      simp only [List.map_cons, List.cons.injEq] at e1
      obtain ⟨rfl, e1⟩ := e1
      simp only [List.map_cons, VRs] at e2
      obtain ⟨y, ys, e, hv, e2⟩ := e2
      cases e
      simp only [fillL] at hf
      cases hp : place i with
      | none => rw [hp] at hf; cases hf
      | some os =>
        obtain ⟨off, size⟩ := os
        rw [hp] at hf
        simp only at hf
        split at hf
        · rename_i hc
          obtain ⟨h1, h2, h3⟩ := hc
          have hcs := cellsOf_ok hv h1
          have hl := VRs.len hcs
          have hl2 := VRs.len h
          simp only [Array.length_toList] at hl hl2
          have := VRs.put off (cs := cs) cs.size (by rw [List.take_of_length_le (by simp)]; exact h) hcs
          rw [List.take_of_length_le (by simp [putA_size])] at this
          obtain ⟨ds, hd, hr⟩ := fill_ok parts ps _ out (putA cs off c.cells.toList) this e1 e2 hf
          refine ⟨ds, ?_, hr⟩
          simp only [Instr.fill, hp]
          rw [if_neg (by simp; omega)]
          rw [← hd]
          congr 1
          have := zipIdx_foldl off c.cells.toList 0 cs
          rw [Nat.add_zero] at this
          rw [← this, ← Array.foldl_toList]
          simp
        · cases hf
theorem parts_ok {m : Mp} {env : Env} {a : Act} (fr : FR m env a.tmps) (parts : Array (Nat × Operand)) :
    (parts.toList.map fun p => (p.1, opnd env p.2)).map (·.1) = (parts.map fun p => (p.1, a.eval p.2)).toList.map (·.1) ∧ VRs m ((parts.toList.map fun p => (p.1, opnd env p.2)).map (·.2)) ((parts.map fun p => (p.1, a.eval p.2)).toList.map (·.2)) := by
  constructor
  · simp [List.map_map, Function.comp_def]
  · simp only [Array.toList_map, List.map_map, Function.comp_def]
    have := opnds_ok fr (parts.toList.map (·.2))
    simpa [List.map_map, Function.comp_def] using this
theorem fieldsZ_ok {P : Program} {C : Cx} (hti : ∀ t i, C.ti t = some i → mkTi P t = some i) : ∀ (fs : List Field) (l : List (Nat × Nat)), fieldsZ C (fs.map fun f => (f.offset, f.type)) = some l → ∀ w : World, (fs.mapM (fun f => do pure (f.offset, ← Go.sizeOf f.type) : Field → Sem (Nat × Nat))).run P w = .ok l w
  | [], l, h, w => by simp only [List.map_nil, fieldsZ] at h; cases h; simp
  | f :: fs, l, h, w => by
    simp only [List.map_cons, fieldsZ] at h
    cases h1 : sizeOfT C f.type with
    | none => rw [h1] at h; cases h
    | some z =>
      cases h2 : fieldsZ C (fs.map fun f => (f.offset, f.type)) with
      | none => rw [h1, h2] at h; cases h
      | some l' =>
        rw [h1, h2] at h
        cases h
        have ih := fieldsZ_ok hti fs l' h2 w
        unfold sizeOfT at h1
        cases ht : C.ti f.type with
        | none => rw [ht] at h1; cases h1
        | some j =>
          rw [ht] at h1
          cases h1
          simp only [List.mapM_cons, Sem.run_bind, ti_size (hti _ _ ht) w, Result.andThen_ok, Sem.run_pure, ih]
theorem op_build_struct {P : Program} {C : Cx} (hti : ∀ t i, C.ti t = some i → mkTi P t = some i) {m : Mp} {w : World} {t : Nat} {i : Ti} {z out : List AV} {fs : List (Nat × Nat)} {parts : List (Nat × AV)} {ps : Array (Nat × Value)} (ht : C.ti t = some i) (hz : i.zero = some z) (hk : i.kind = .struct) (hf : fieldsZ C i.fields = some fs)
    (h : fillL (fun k => fs[k]?) z parts = some out) (e1 : parts.map (·.1) = ps.toList.map (·.1)) (e2 : VRs m (parts.map (·.2)) (ps.toList.map (·.2))) : ∃ e, (Instr.build t ps).run P w = .ok e w ∧ VR m (.agg out) e := by
  obtain ⟨c, hc, rfl⟩ := ti_zero (hti _ _ ht) hz w
  obtain ⟨fds, hu, hfs⟩ := ti_struct (hti _ _ ht) hk
  rw [hfs] at hf
  have hm := fieldsZ_ok hti _ _ hf w
  obtain ⟨ds, hd, hr⟩ := fill_ok _ _ _ _ _ (VRs_ofVal m c.cells.toList) e1 e2 h
  refine ⟨.agg ds, ?_, by simp only [VR]; exact ⟨_, rfl, hr⟩⟩
  have hm' : (fds.mapM (fun f => do pure (f.offset, ← Go.sizeOf f.type) : Field → Sem (Nat × Nat))).run P w = .ok fs.toArray w := by
    rw [Array.mapM_eq_mapM_toList, Sem.run_map, hm]
    rfl
  have hd' : Instr.fill (fun k => fs.toArray[k]?) c.cells ps.toList = some ds := by simpa using hd
  simp only [Instr.build, Sem.run_bind, hc, Result.andThen_ok, run_underlying hu, hm', hd', Sem.run_pure]
theorem op_build_array {P : Program} {C : Cx} (hti : ∀ t i, C.ti t = some i → mkTi P t = some i) {m : Mp} {w : World} {t n : Nat} {i : Ti} {z out : List AV} {parts : List (Nat × AV)} {ps : Array (Nat × Value)} (ht : C.ti t = some i) (hz : i.zero = some z) (hk : i.kind = .array) (hn : sizeOfT C i.elem = some n)
    (h : fillL (fun k => some (k * n, n)) z parts = some out) (e1 : parts.map (·.1) = ps.toList.map (·.1)) (e2 : VRs m (parts.map (·.2)) (ps.toList.map (·.2))) : ∃ e, (Instr.build t ps).run P w = .ok e w ∧ VR m (.agg out) e := by
  obtain ⟨c, hc, rfl⟩ := ti_zero (hti _ _ ht) hz w
  have hu := ti_array (hti _ _ ht) hk
  obtain ⟨ds, hd, hr⟩ := fill_ok _ _ _ _ _ (VRs_ofVal m c.cells.toList) e1 e2 h
  refine ⟨.agg ds, ?_, by simp only [VR]; exact ⟨_, rfl, hr⟩⟩
  unfold sizeOfT at hn
  cases he : C.ti i.elem with
  | none => rw [he] at hn; cases hn
  | some j =>
    rw [he] at hn
    cases hn
    simp only [Instr.build, Sem.run_bind, hc, Result.andThen_ok, run_underlying hu, ti_size (hti _ _ he) w, hd, Sem.run_pure]

theorem rep_length (z : List AV) : ∀ n, (rep z n).length = n * z.length
  | 0 => by simp [rep]
  | n + 1 => by simp [rep, rep_length z n, Nat.add_mul, Nat.add_comm]
theorem rep_get (z : List AV) (hz : 0 < z.length) : ∀ (n i : Nat), i < n * z.length → (rep z n)[i]? = z[i % z.length]?
  | 0, i, h => by simp at h
  | n + 1, i, h => by
    rw [rep]
    by_cases hi : i < z.length
    · rw [List.getElem?_append_left hi, Nat.mod_eq_of_lt hi]
    · rw [List.getElem?_append_right (by omega), rep_get z hz n (i - z.length) (by rw [Nat.add_mul] at h; omega)]
      congr 1
      rw [← Nat.mod_eq_sub_mod (by omega)]
theorem VRs_rep {m : Mp} {c : Value} {n sz : Nat} (hsz : (c.cells.toList.map ofVal).length = sz) (h0 : 0 < sz) : VRs m (rep (c.cells.toList.map ofVal) n) ((Array.range (n * sz)).map (c.cells[· % c.cells.size]!)).toList := by
  have key : rep (c.cells.toList.map ofVal) n = (((Array.range (n * sz)).map (c.cells[· % c.cells.size]!)).toList).map ofVal := by
    apply List.ext_getElem?
    intro i
    by_cases hi : i < n * sz
    · rw [rep_get _ (by omega) n i (by rw [hsz]; exact hi), hsz]
      have hs : c.cells.size = sz := by simpa using hsz
      have hlt : i % sz < c.cells.size := by rw [hs]; exact Nat.mod_lt _ h0
      simp [hi, hs, List.getElem?_map]
      rw [hs] at hlt
      simp [hs, hlt]
    · rw [List.getElem?_eq_none (by rw [rep_length, hsz]; omega), List.getElem?_eq_none (by simp; omega)]
  rw [key]
  exact VRs_ofVal m _
theorem op_buildSlice {P : Program} {C : Cx} (hti : ∀ t i, C.ti t = some i → mkTi P t = some i) {m : Mp} {H H' : Hp} {w : World} {base : Nat} {t len : Nat} {i e : Ti} {z out : List AV} {parts : List (Nat × AV)} {ps : Array (Nat × Value)} {r v o : Nat} (ht : C.ti t = some i) (hk : i.kind = .slice) (he : C.ti i.elem = some e) (hz : e.zero = some z) (h1 : z.length = e.size) (h2 : 0 < e.size) (h3 : len * e.size ≤ 2 ^ 24)
    (h : fillL (fun k => some (k * e.size, e.size)) (rep z len) parts = some out) (hl : out.length = len * e.size) (e1 : parts.map (·.1) = ps.toList.map (·.1)) (e2 : VRs m (parts.map (·.2)) (ps.toList.map (·.2))) (ha : alloc1 H out = some (.ptr r v o, H')) (rw : RW m H w base) :
    Good P (do pure (.value (← Instr.buildSlice t len ps))) m w base (.slice r v 0 len e.size) H' := by
  obtain ⟨c, hc, rfl⟩ := ti_zero (hti _ _ he) hz w
  have hu := ti_slice (hti _ _ ht) hk
  obtain ⟨ds, hd, hr⟩ := fill_ok _ _ _ _ _ (VRs_rep (m := m) (n := len) h1 h2) e1 e2 h
  have hl2 := VRs.len hr
  simp only [Array.length_toList] at hl2
  obtain ⟨hp, m', q1, q2, q3⟩ := alloc1_ok ha rw ds i.elem (0, 0) (free0 _) (by omega) (by rw [List.take_of_length_le (by simp; omega)]; exact hr)
  cases hp
  refine ⟨m', _, q2, q3, .inl ⟨.slice (some ⟨w.heap.size, 0, none⟩) len len, ?_, ?_⟩⟩
  · have hzs : c.cells.size = e.size := by simpa using h1
    have hbig : ¬ len * e.size > 2 ^ 24 := by omega
    by_cases h4 : len = 0
    · subst h4
      have hr0 : Array.range 0 = #[] := Array.ext (by simp) (fun i h1 h2 => by simp at h2)
      have hd' : Instr.fill (fun i => some (i * e.size, e.size)) #[] ps.toList = some ds := by simpa [hr0] using hd
      simp only [Instr.buildSlice, Sem.run_bind, run_underlying hu, Result.andThen_ok, ti_size (hti _ _ he) w, if_neg hbig, Sem.run_pure, Nat.zero_mul, if_true]
      simp [newRow, newObj, Sem.run, wnew, hr0, hd']
    · have hne : ¬ len * e.size = 0 := Nat.ne_of_gt (Nat.mul_pos (by omega) h2)
      simp only [Instr.buildSlice, Sem.run_bind, run_underlying hu, Result.andThen_ok, ti_size (hti _ _ he) w, if_neg hbig, Sem.run_pure, if_neg hne, hc, hd]
      simp [newRow, newObj, Sem.run, wnew]
  · simp only [VR]
    exact ⟨_, _, len, q1, by omega, Nat.le_refl _, by omega, rfl⟩
theorem op_makeSlice {P : Program} {C : Cx} (hti : ∀ t i, C.ti t = some i → mkTi P t = some i) {m : Mp} {H H' : Hp} {w : World} {base : Nat} {t : Nat} {i e : Ti} {z : List AV} {k k' : IntKind} {n : Int} {c d : Value} {r v o : Nat} (ht : C.ti t = some i) (hk : i.kind = .slice) (he : C.ti i.elem = some e) (hz : e.zero = some z) (h1 : z.length = e.size) (h2 : 0 < e.size) (h3 : 0 ≤ n) (h4 : n * e.bytes ≤ 2 ^ 40) (h5 : n ≤ 2 ^ 40)
    (hc : VR m (.int k n) c) (hd : VR m (.int k' n) d) (ha : alloc1 H (rep z n.toNat) = some (.ptr r v o, H')) (rw : RW m H w base) : Good P (do pure (.value (← Instr.makeSlice t c d))) m w base (.slice r v 0 n.toNat e.size) H' := by
  simp only [VR] at hc hd
  subst hc; subst hd
  obtain ⟨c, hc, rfl⟩ := ti_zero (hti _ _ he) hz w
  obtain ⟨j, hj, hjs, hjb, _⟩ := ti_info (hti _ _ he) w
  have hu := ti_slice (hti _ _ ht) hk
  have hr := VRs_rep (m := m) (n := n.toNat) h1 h2
  have hl2 := VRs.len hr
  have hrl := rep_length (c.cells.toList.map ofVal) n.toNat
  rw [h1] at hrl
  obtain ⟨hp, m', q1, q2, q3⟩ := alloc1_ok ha rw ((Array.range (n.toNat * e.size)).map (c.cells[· % c.cells.size]!)) i.elem (0, 0) (free0 _) (by simp; omega) (by rw [List.take_of_length_le (by simp; omega)]; exact hr)
  cases hp
  have hw : IntKind.i64.wrap n = n := by simp [IntKind.wrap, IntKind.bits, IntKind.signed]; omega
  refine ⟨m', _, q2, q3, .inl ⟨.slice (some ⟨w.heap.size, 0, none⟩) n.toNat n.toNat, ?_, ?_⟩⟩
  · have hf1 : ¬ (n < 0) := by omega
    have hb : ¬ ((e.bytes : Int) * n > 2 ^ 48) := by rw [Int.mul_comm]; omega
    by_cases hn0 : n = 0
    · subst hn0
      have hr0 : Array.range 0 = #[] := Array.ext (by simp) (fun i h1 h2 => by simp at h2)
      simp only [Instr.makeSlice, Sem.run_bind, run_underlying hu, Result.andThen_ok, asInt, asIntOf, Sem.run_pure, hj, hw, hjb, hf1, hb, ti_size (hti _ _ he) w]
      simp [newRow, newObj, Sem.run, wnew, hr0]
      try simp only [ti_size (hti _ _ he) w, Result.andThen_ok]
      try simp [newRow, newObj, Sem.run, wnew, hr0]
    have hne : ¬ n.toNat * e.size = 0 := Nat.ne_of_gt (Nat.mul_pos (by omega) h2)
    simp only [Instr.makeSlice, Sem.run_bind, run_underlying hu, Result.andThen_ok, asInt, asIntOf, Sem.run_pure, hj, hw, hjb, hf1, hb, ti_size (hti _ _ he) w, if_neg hne, hc]
    simp [newRow, newObj, Sem.run, wnew, hf1, hb]
    simp only [ti_size (hti _ _ he) w, Result.andThen_ok, if_neg hne, hc]
    try rfl
  · simp only [VR]
    have : ((Array.range (n.toNat * e.size)).map (c.cells[· % c.cells.size]!)).size = n.toNat * e.size := by simp
    exact ⟨_, _, n.toNat, q1, by omega, Nat.le_refl _, by omega, rfl⟩
theorem op_len_string {P : Program} {C : Cx} (hti : ∀ t i, C.ti t = some i → mkTi P t = some i) {m : Mp} {w : World} {t : Nat} {ts : Array TypeId} {ty : TypeId} {i : Ti} {s : List Nat} {c : Value} (ht : C.ti t = some i) (h0 : ts[0]? = some t) (hk : i.kind = .string) (hx : VR m (.str s) c) :
    ∃ e, (Builtin.len_ ts ty #[c]).run P w = .ok e w ∧ VR m (.int .i64 s.length) e := by
  simp only [VR] at hx
  obtain ⟨u, rfl, rfl⟩ := hx
  have hu := ti_string (hti _ _ ht) hk
  exact ⟨.int .i64 u.size, by simp [Builtin.len_, h0, run_underlying hu, goInt], by simp [VR]⟩
theorem op_len_array {P : Program} {C : Cx} (hti : ∀ t i, C.ti t = some i → mkTi P t = some i) {m : Mp} {w : World} {t : Nat} {ts : Array TypeId} {ty : TypeId} {i : Ti} {c : Value} (ht : C.ti t = some i) (h0 : ts[0]? = some t) (hk : i.kind = .array) :
    ∃ e, (Builtin.len_ ts ty #[c]).run P w = .ok e w ∧ VR m (.int .i64 i.len) e := by
  have hu := ti_array (hti _ _ ht) hk
  exact ⟨.int .i64 i.len, by simp [Builtin.len_, h0, run_underlying hu, goInt], by simp [VR]⟩
theorem op_len_slice {P : Program} {C : Cx} (hti : ∀ t i, C.ti t = some i → mkTi P t = some i) {m : Mp} {w : World} {t : Nat} {ts : Array TypeId} {ty : TypeId} {i : Ti} {c : Value} {a : Option Addr} {n cap : Nat} (ht : C.ti t = some i) (h0 : ts[0]? = some t) (hk : i.kind = .slice) (hx : c = .slice a n cap) :
    ∃ e, (Builtin.len_ ts ty #[c]).run P w = .ok e w ∧ VR m (.int .i64 n) e := by
  subst hx
  have hu := ti_slice (hti _ _ ht) hk
  exact ⟨.int .i64 n, by simp [Builtin.len_, h0, run_underlying hu, goInt], by simp [VR]⟩
end Go.Proofs.Ytfkefelgjbfkjaa.Am

/-! Each operation of the abstract machine tells what Go's machine does. Eighth part: append and copy. -/
set_option linter.unusedVariables false
set_option linter.unusedSimpArgs false
namespace Go.Proofs.Ytfkefelgjbfkjaa.Am
open Go

theorem rd_drew {m : Mp} {H : Hp} {w : World} {base : Nat} (rw : RW m H w base) : RW m H w.drew base := rw.drawn _
theorem src_ok {P : Program} {m : Mp} {H : Hp} {w : World} {base : Nat} {x : AV} {c : Value} {sz n u : Nat} {new : List AV} (hnc : noCopy x = false) (hl : srcLen x = some n) (hs : srcCells H sz n x = some new) (h1 : new.all one1 = true) (hx : VR m x c) (rw : RW m H w base)
    (hk : (∃ e', P.underlying u = some (.slice e')) ∨ P.underlying u = some .string) : ∃ news, VRs m new news ∧ Src P sz u c n news w := by
  cases x <;> simp only [srcLen] at hl <;> try (cases hl; done)
  case vec => cases hnc
  case own => cases hnc
  case nils =>
    cases hl
    simp only [srcCells] at hs
    cases hs
    simp only [VR] at hx
    subst hx
    exact ⟨[], by simp [VRs], ⟨hk, fun _ => rfl, run_firstCells_none w sz 0 0 0, run_firstCells_none w.drew sz 0 0 0, by simp, fun _ h => by cases h⟩⟩
  case slice r v off len z =>
    cases hl
    simp only [srcCells] at hs
    split at hs
    · rename_i hc
      simp only [VR] at hx
      obtain ⟨B, N, cap, hm, _, _, _, rfl⟩ := hx
      obtain ⟨hn, news, hv, hcell⟩ := rd_ok hs rw hm
      have hlen := VRs.len hv
      refine ⟨news, hv, ⟨hk, fun _ => rfl, ?_, ?_, by omega, one1s_ok hv h1⟩⟩
      · exact run_firstCells_some w sz n ⟨B, off, none⟩ n cap news (by omega) (fun j u hj => by rw [addr_add]; exact hcell j u hj)
      · exact run_firstCells_some w.drew sz n ⟨B, off, none⟩ n cap news (by omega) (fun j u hj => by rw [addr_add]; exact hcell j u hj)
    · cases hs
  case str s =>
    cases hl
    simp only [srcCells] at hs
    split at hs
    · rename_i hc
      cases hs
      simp only [VR] at hx
      obtain ⟨t, rfl, rfl⟩ := hx
      obtain ⟨rfl, _⟩ := hc
      have hsz : (t.data.toList.map (·.toNat)).length = t.size := by simp
      rw [hsz]
      have key : ∀ l : List UInt8, VRs m (l.map fun b => AV.int .u8 (b.toNat : Int)) (l.map fun b => Value.int .u8 b.toNat) := by
        intro l
        induction l with
        | nil => simp [VRs]
        | cons b l ih => simp only [List.map_cons, VRs, VR]; exact ⟨_, _, rfl, rfl, ih⟩
      refine ⟨byteCells t, ?_, ⟨hk, fun _ => rfl, firstCells_string t w, firstCells_string t w.drew, by rw [byteCells_length, Nat.mul_one], fun u hu => by
        obtain ⟨_, _, rfl⟩ := List.mem_map.1 hu
        rfl⟩⟩
      rw [List.take_of_length_le (by rw [hsz]; exact Nat.le_refl _), List.map_map]
      exact key _
    · cases hs
theorem src_new {P : Program} {m : Mp} {H : Hp} {w : World} {base : Nat} {x : AV} {c : Value} {sz n u : Nat} {new : List AV} (hl : srcLen x = some n) (hs : srcCells H sz n x = some new) (h1 : new.all one1 = true) (hx : VR m x c) (rw : RW m H w base)
    (hk : (∃ e', P.underlying u = some (.slice e')) ∨ P.underlying u = some .string) : ∃ news, VRs m new news ∧ Src P sz u c n news w := by
  cases x
  case vec n' z cells =>
    cases hl
    simp only [srcCells] at hs
    split at hs
    · rename_i hc
      cases hs
      have hx0 := hx
      simp only [VR] at hx
      obtain ⟨hcl, a, cap, rfl, hcap, _, hfr⟩ := hx
      by_cases hn : n = 0
      · subst hn
        rw [Nat.zero_mul, List.take_zero] at h1 ⊢
        refine ⟨[], by simp [VRs], ⟨hk, fun _ => rfl, ?_, ?_, by simp, fun _ h => by cases h⟩⟩
        · cases a with
          | none => exact run_firstCells_none w sz 0 0 cap
          | some a => exact run_firstCells_some w sz 0 a 0 cap [] (by simp) (fun j u hj => by simp at hj)
        · cases a with
          | none => exact run_firstCells_none w.drew sz 0 0 cap
          | some a => exact run_firstCells_some w.drew sz 0 a 0 cap [] (by simp) (fun j u hj => by simp at hj)
      · obtain ⟨id, B, off, all, hid, rfl, hall, hle⟩ := hfr (by omega)
        obtain ⟨rfl, _⟩ := hc
        have hvp : VR m (.vptr cells) (.pointer (some ⟨B, off, none⟩)) := by
          simp only [VR]
          exact ⟨id, B, off, all, hid, rfl, by rw [hcl]; exact hall, by omega⟩
        obtain ⟨B', off', e, news, hv, hcell⟩ := vptr_ok hvp rw
        cases e
        have hlen := VRs.len hv
        have htk : cells.take (n * z) = cells := List.take_of_length_le (by omega)
        rw [htk] at h1 ⊢
        refine ⟨news, hv, ⟨hk, fun _ => rfl, ?_, ?_, by omega, one1s_ok hv h1⟩⟩
        · exact run_firstCells_some w z n ⟨B, off, none⟩ n cap news (by omega) (fun j u hj => by rw [addr_add]; exact hcell j u hj)
        · exact run_firstCells_some w.drew z n ⟨B, off, none⟩ n cap news (by omega) (fun j u hj => by rw [addr_add]; exact hcell j u hj)
    · cases hs
  case own r len z =>
    cases hl
    by_cases hn : n = 0
    · subst hn
      simp only [srcCells, if_true] at hs
      cases hs
      have key : ∃ a cap, c = .slice a 0 cap := by
        simp only [VR] at hx
        rcases hx with ⟨_, rfl⟩ | ⟨B, N, cap, _, _, _, rfl⟩
        · exact ⟨none, 0, rfl⟩
        · exact ⟨_, cap, rfl⟩
      obtain ⟨a, cap, rfl⟩ := key
      refine ⟨[], by simp [VRs], ⟨hk, fun _ => rfl, ?_, ?_, by simp, fun _ h => by cases h⟩⟩
      · cases a with
        | none => exact run_firstCells_none w sz 0 0 cap
        | some a => exact run_firstCells_some w sz 0 a 0 cap [] (by simp) (fun j u hj => by simp at hj)
      · cases a with
        | none => exact run_firstCells_none w.drew sz 0 0 cap
        | some a => exact run_firstCells_some w.drew sz 0 a 0 cap [] (by simp) (fun j u hj => by simp at hj)
    · have hx' := own_slice hx (by omega)
      refine src_ok (x := .slice r (n * z) 0 n z) rfl rfl ?_ h1 hx' rw hk
      simp only [srcCells, if_neg hn] at hs
      simp only [srcCells]
      exact hs
  all_goals exact src_ok rfl hl hs h1 hx rw hk
theorem appendGood {P : Program} {C : Cx} (hti : ∀ t i, C.ti t = some i → mkTi P t = some i) {m : Mp} {H H' : Hp} {w : World} {base : Nat} {t u n ty : Nat} {i e : Ti} {z : List AV} {s x v : AV} {cs cx : Value} {new : List AV} (ht : C.ti t = some i) (hk : i.kind = .slice) (he : C.ti i.elem = some e) (hz : e.zero = some z) (hzl : z.length = e.size)
    (hku : (∃ e', P.underlying u = some (.slice e')) ∨ P.underlying u = some .string) (hl : srcLen x = some n) (hsrc : srcCells H e.size n x = some new) (h : appV H s e.size e.bytes n new = some (v, H')) (hs : VR m s cs) (hx : VR m x cx) (rw : RW m H w base) :
    Good P (do pure (.value (← Builtin.append_ #[t, u] ty #[cs, cx]))) m w base v H' := by
  unfold appV at h
  split at h
  case isFalse => cases h
  case isTrue hc =>
  obtain ⟨hnl, hsz, hone⟩ := hc
  obtain ⟨news, hv, hS⟩ := src_new (P := P) (u := u) hl hsrc hone hx rw hku
  have hu := ti_slice (hti _ _ ht) hk
  obtain ⟨j, d, hj, _, hjs, hjb, hjz, _⟩ := mkTi_spec (hti _ _ he)
  rw [hz] at hjz
  cases hjz0 : j.zero with
  | none => rw [hjz0] at hjz; cases hjz
  | some zc =>
  have hzs : zc.cells.size = j.size := by
    rw [hjz0] at hjz
    have := congrArg (Option.map List.length) hjz
    simp at this
    omega
  have hnews := VRs.len hv
  rw [hjs] at hS
  split at h
  · simp only [VR] at hs
    subst hs
    split at h
    · rename_i hn0
      subst hn0
      cases h
      have : news = [] := by
        cases news with
        | nil => rfl
        | cons => simp at hnews; omega
      subst this
      refine Good.val (.slice none 0 0) ?_ rw (by simp only [VR])
      rcases hS.kind with ⟨e', hk'⟩ | hk' <;> simp [Builtin.append_, run_underlying hu, run_underlying hk', sizeOf, typeInfo, hj, hS.len, hS.cells]
    · rename_i hn0
      split at h
      · rename_i hb
        obtain ⟨hb1, hb2, hb3⟩ := hb
        cases h
        have hr := run_append_grow_src (P := P) w t u ty i.elem j zc hu hj hjz0 none 0 0 [] (run_firstCells_none w.drew j.size 0 0 0) cx n news hS (by omega) (by omega) (growslice_fits (by omega) (by rw [← hjb]; simp; omega))
        simp only [Nat.zero_add, List.nil_append] at hr
        have hge := grownCap_ge w n 0 i.elem
        have hcs : (news.toArray ++ Builtin.zeroCells zc.cells (grownCap w n 0 i.elem - n)).size = grownCap w n 0 i.elem * e.size := by
          simp only [Array.size_append, List.size_toArray, size_zeroCells, hzs, hS.newsLen, ← Nat.add_mul, hjs]
          congr 1
          omega
        have hN : n * e.size ≤ grownCap w n 0 i.elem * e.size := Nat.mul_le_mul_right _ hge
        obtain ⟨q2, q3⟩ := (rd_drew rw).alloc hb3 new (news.toArray ++ Builtin.zeroCells zc.cells (grownCap w n 0 i.elem - n)) i.elem (0, 0) (free0 _) (by omega) (by
          rw [Array.toList_append, List.take_append_of_le_length (by simp; omega), List.take_of_length_le (by simp; omega)]
          exact hv)
        refine ⟨_, _, q2, St.trans rw.base_le (St.drawn m w base _) q3, .inl ⟨_, by rw [Sem.run_bind, hr]; rfl, ?_⟩⟩
        simp only [VR]
        exact ⟨w.heap.size, _, grownCap w n 0 i.elem, Mp.add_same _ _ _ _, by omega, hge, by rw [hcs]; omega, rfl⟩
      · cases h
  · rename_i r v0 off len z0
    split at h
    case isFalse => cases h
    case isTrue hc =>
    obtain ⟨rfl, rfl, rfl, hb1, hb2⟩ := hc
    split at h
    · rename_i hn0
      subst hn0
      cases h
      have hnil : news = [] := by
        cases news with
        | nil => rfl
        | cons => simp at hnews; omega
      subst hnil
      have hs0 := hs
      simp only [VR] at hs
      obtain ⟨B, N, cap, hm, g1, g2, g3, rfl⟩ := hs
      refine Good.val (.slice (some ⟨B, 0, none⟩) len cap) ?_ rw hs0
      rcases hS.kind with ⟨e', hk'⟩ | hk' <;> simp [Builtin.append_, run_underlying hu, run_underlying hk', sizeOf, typeInfo, hj, hS.len, hS.cells, g2, storeCells]
    · rename_i hn0
      cases hb : H.t.get r with
      | none => rw [hb] at h; cases h
      | some b =>
        rw [hb] at h
        simp only at h
        split at h
        case isFalse => cases h
        case isTrue hc =>
        obtain ⟨hro, hvl, hmin⟩ := hc
        cases h
        simp only [VR] at hs
        obtain ⟨B, N, cap, hm, g1, g2, g3, rfl⟩ := hs
        rw [hvl] at hm hmin
        obtain ⟨b0, hb0, hv0, hBs, hbase⟩ := rw.dom _ _ _ _ hm
        rw [hb] at hb0
        cases hb0
        obtain ⟨cs, ty1, fr1, hc1, hs1, hN1, hf1, hr1⟩ := rw.blk _ _ _ _ _ hb hm hmin (Nat.le_refl _)
        have hnew0 : 0 < new.length := by rw [hnl]; exact Nat.mul_pos (by omega) hsz
        have hlenN : news.length = n * e.size := by rw [hS.newsLen, hjs]
        have hrt := hr1
        rw [List.take_of_length_le (Nat.le_refl _)] at hr1
        by_cases hroom : len + n ≤ cap
        · have hle : (len + n) * e.size ≤ cap * e.size := Nat.mul_le_mul_right _ hroom
          rw [Nat.add_mul] at hle
          have hst := run_storeCells_wset P B (len * e.size) ty1 fr1 news 0 cs w hc1 (by omega) (by rw [hs1]; exact hf1 hro) hS.one
          have hne : news ≠ [] := by intro e0; subst e0; simp at hnews; omega
          rw [if_neg hne, Nat.add_zero] at hst
          have hold : (putA cs (len * e.size) news).toList.take b.cells.length = cs.toList.take b.cells.length := putA_take cs b.cells.length news (len * e.size) (by omega)
          obtain ⟨q2, q3⟩ := rw.extend hb hro hm hmin hc1 (cs' := putA cs (len * e.size) news) (putA_size _ _ _) new hnew0 (by omega) hold (by
            have e1 : (putA cs (len * e.size) news).toList.take (b.cells.length + new.length) = cs.toList.take b.cells.length ++ news := by
              rw [hvl, show new.length = news.length by omega]
              exact putA_take_put cs news b.cells.length (by omega)
            rw [e1]
            exact VRs.append hr1 hv)
          refine ⟨_, _, q2, q3, .inl ⟨.slice (some ⟨B, 0, none⟩) (len + n) cap, ?_, ?_⟩⟩
          · have hS' := hS
            rw [← hjs] at hS'
            rcases hS.kind with ⟨e', hk'⟩ | hk' <;> simp [Builtin.append_, run_underlying hu, run_underlying hk', sizeOf, typeInfo, hj, ← hjs, hS'.len, hroom, hS'.cells, addr_add, hst]
          · simp only [VR]
            refine ⟨B, N, cap, ?_, by rw [Nat.add_mul]; omega, by omega, g3, rfl⟩
            rw [hvl]
            exact Mp.add_same _ _ _ _
        · have hold : (Builtin.firstCells j.size len (.slice (some ⟨B, 0, none⟩) len cap)).run P w.drew = .ok (cs.toList.take b.cells.length).toArray w.drew := by
            refine run_firstCells_some w.drew j.size len ⟨B, 0, none⟩ len cap _ ?_ ?_
            · rw [List.length_take, Array.length_toList, ← hjs]; omega
            · intro q y hq
              rw [addr_add, cell_of w.drew B _ cs ty1 fr1 hc1]
              rw [List.getElem?_take] at hq
              split at hq
              · simpa using hq
              · cases hq
          have hr := run_append_grow_src (P := P) w t u ty i.elem j zc hu hj hjz0 (some ⟨B, 0, none⟩) len cap (cs.toList.take b.cells.length) hold cx n news hS (by omega) (by omega) (growslice_fits (by omega) (by rw [← hjb]; omega))
          have hge := grownCap_ge w (len + n) cap i.elem
          have hN : (len + n) * e.size ≤ grownCap w (len + n) cap i.elem * e.size := Nat.mul_le_mul_right _ hge
          have htk : (cs.toList.take b.cells.length).length = len * e.size := by rw [List.length_take, Array.length_toList]; omega
          have hcs : ((cs.toList.take b.cells.length ++ news).toArray ++ Builtin.zeroCells zc.cells (grownCap w (len + n) cap i.elem - (len + n))).size = grownCap w (len + n) cap i.elem * e.size := by
            simp only [Array.size_append, List.size_toArray, List.length_append, htk, size_zeroCells, hzs, hlenN, ← hjs, ← Nat.add_mul]
            congr 1
            omega
          rw [Nat.add_mul] at hN
          obtain ⟨q2, q3⟩ := (rd_drew rw).regrow hb hro new hnew0 ((cs.toList.take b.cells.length ++ news).toArray ++ Builtin.zeroCells zc.cells (grownCap w (len + n) cap i.elem - (len + n))) i.elem (by omega) (by
            rw [Array.toList_append, List.take_append_of_le_length (by simp only [List.length_append, htk]; omega), List.take_of_length_le (by simp only [List.length_append, htk]; omega)]
            exact VRs.append hr1 hv)
          refine ⟨_, _, q2, St.trans rw.base_le (St.drawn m w base _) q3, .inl ⟨_, by rw [Sem.run_bind, hr]; rfl, ?_⟩⟩
          simp only [VR]
          rw [hvl]
          exact ⟨w.heap.size, _, grownCap w (len + n) cap i.elem, Mp.add_same _ _ _ _, by rw [Nat.add_mul]; omega, hge, by rw [hcs]; omega, rfl⟩
  · cases h
theorem appendW {P : Program} {C : Cx} (hti : ∀ t i, C.ti t = some i → mkTi P t = some i) {m : Mp} {H H' : Hp} {w : World} {base : Nat} {t u n ty : Nat} {i e : Ti} {z : List AV} {s x v : AV} {cs cx : Value} {new : List AV} (ht : C.ti t = some i) (hk : i.kind = .slice) (he : C.ti i.elem = some e) (hz : e.zero = some z) (hzl : z.length = e.size)
    (hku : (∃ e', P.underlying u = some (.slice e')) ∨ P.underlying u = some .string) (hl : srcLen x = some n) (hsrc : srcCells H e.size n x = some new) (h : appW H s e.size e.bytes n new = some (v, H')) (hs : VR m s cs) (hx : VR m x cx) (rw : RW m H w base) :
    Good P (do pure (.value (← Builtin.append_ #[t, u] ty #[cs, cx]))) m w base v H' := by
  unfold appW at h
  split at h
  case h_2 => exact appendGood hti ht hk he hz hzl hku hl hsrc h hs hx rw
  case h_1 r len z0 =>
  split at h
  case h_2 => cases h
  case h_1 v0 H1 happ =>
  cases h
  have happ0 := happ
  unfold appV at happ
  split at happ
  case isFalse => cases happ
  case isTrue hc =>
  obtain ⟨hnl, hsz, hone⟩ := hc
  simp only at happ
  split at happ
  case isFalse => cases happ
  case isTrue hc2 =>
  obtain ⟨rfl, _, _, hb1, hb2⟩ := hc2
  have hs0 := hs
  simp only [VR] at hs
  by_cases hnil : cs = .slice none 0 0
  · obtain rfl : len = 0 := by
      rcases hs with ⟨h0, _⟩ | ⟨B, N, cap, _, _, _, e0⟩
      · exact h0
      · rw [hnil] at e0; cases e0
    subst hnil
    rw [Nat.zero_add] at hb1 hb2
    obtain ⟨news, hv, hS⟩ := src_new (P := P) (u := u) hl hsrc hone hx rw hku
    have hu := ti_slice (hti _ _ ht) hk
    obtain ⟨j, d, hj, _, hjs, hjb, hjz, _⟩ := mkTi_spec (hti _ _ he)
    rw [hz] at hjz
    cases hjz0 : j.zero with
    | none => rw [hjz0] at hjz; cases hjz
    | some zc =>
    have hzs : zc.cells.size = j.size := by
      rw [hjz0] at hjz
      have := congrArg (Option.map List.length) hjz
      simp at this
      omega
    have hnews := VRs.len hv
    rw [hjs] at hS
    split at happ
    · rename_i hn0
      subst hn0
      cases happ
      have : news = [] := by
        cases news with
        | nil => rfl
        | cons => simp at hnews; omega
      subst this
      refine Good.val (.slice none 0 0) ?_ rw hs0
      rcases hS.kind with ⟨e', hk'⟩ | hk' <;> simp [Builtin.append_, run_underlying hu, run_underlying hk', sizeOf, typeInfo, hj, hS.len, hS.cells]
    · rename_i hn0
      cases hb : H.t.get r with
      | none => rw [hb] at happ; cases happ
      | some b =>
      rw [hb] at happ
      simp only at happ
      split at happ
      case isFalse => cases happ
      case isTrue hc3 =>
      obtain ⟨hro, hvl, hmin⟩ := hc3
      cases happ
      have hnil : b.cells = [] := List.length_eq_zero_iff.1 (by omega)
      have hr := run_append_grow_src (P := P) w t u ty i.elem j zc hu hj hjz0 none 0 0 [] (run_firstCells_none w.drew j.size 0 0 0) cx n news hS (by omega) (by omega) (growslice_fits (by omega) (by rw [← hjb]; simp; omega))
      simp only [Nat.zero_add, List.nil_append] at hr
      have hge := grownCap_ge w n 0 i.elem
      have hcs : (news.toArray ++ Builtin.zeroCells zc.cells (grownCap w n 0 i.elem - n)).size = grownCap w n 0 i.elem * e.size := by
        simp only [Array.size_append, List.size_toArray, size_zeroCells, hzs, hS.newsLen, ← Nat.add_mul, hjs]
        congr 1
        omega
      have hN : n * e.size ≤ grownCap w n 0 i.elem * e.size := Nat.mul_le_mul_right _ hge
      have hnew0 : 0 < new.length := by rw [hnl]; exact Nat.mul_pos (by omega) hsz
      obtain ⟨q2, q3⟩ := (rd_drew rw).regrow hb hro new hnew0 (news.toArray ++ Builtin.zeroCells zc.cells (grownCap w n 0 i.elem - n)) i.elem (by rw [hnil]; simp only [List.length_nil]; omega) (by
        rw [hnil, List.nil_append, List.length_nil, Nat.zero_add, Array.toList_append, List.take_append_of_le_length (by simp; omega), List.take_of_length_le (by simp; omega)]
        exact hv)
      refine ⟨_, _, q2, St.trans rw.base_le (St.drawn m w base _) q3, .inl ⟨_, by rw [Sem.run_bind, hr]; rfl, ?_⟩⟩
      simp only [VR]
      refine .inr ⟨w.heap.size, (news.toArray ++ Builtin.zeroCells zc.cells (grownCap w n 0 i.elem - n)).size, grownCap w n 0 i.elem, ?_, by omega, by rw [hcs]; exact Nat.le_refl _, by rw [Nat.zero_add]⟩
      have e0 : (0 + n) * e.size = b.cells.length + new.length := by rw [hnil, Nat.zero_add]; simp only [List.length_nil]; omega
      rw [e0]
      exact Mp.add_same _ _ _ _
  · have hsl : VR m (.slice r (len * e.size) 0 len e.size) cs := by
      simp only [VR]
      rcases hs with ⟨_, e0⟩ | ⟨B, N, cap, h1, h2, h3, e0⟩
      · exact absurd e0 hnil
      · exact ⟨B, N, cap, h1, by omega, h2, by omega, e0⟩
    obtain ⟨m', w', q1, q2, q3⟩ := appendGood hti ht hk he hz hzl hku hl hsrc happ0 hsl hx rw
    refine ⟨m', w', q1, q2, ?_⟩
    have hv0 : v0 = .slice r ((len + n) * e.size) 0 (len + n) e.size := by
      split at happ
      · rename_i hn0; cases happ; rw [hn0, Nat.add_zero]
      · split at happ
        · split at happ
          · cases happ; rw [hnl, ← Nat.add_mul]
          · cases happ
        · cases happ
    rcases q3 with ⟨c, hc1, hc2⟩ | ⟨_, hbad⟩
    · rw [hv0] at hc2
      exact .inl ⟨c, hc1, slice_own hc2 rfl⟩
    · rw [hv0] at hbad; cases hbad
theorem copyGood {P : Program} {C : Cx} (hti : ∀ t i, C.ti t = some i → mkTi P t = some i) {m : Mp} {H H' : Hp} {w : World} {base : Nat} {t ty sl r v off len : Nat} {ts : Array TypeId} {i e : Ti} {x y : AV} {cd cx : Value} {cs : List AV} (ht : C.ti t = some i) (h0 : ts[0]? = some t) (hk : i.kind = .slice) (he : C.ti i.elem = some e) (hl : srcLen x = some sl)
    (hsrc : srcCells H e.size (min sl len) x = some cs) (hw : (if cs.length = 0 then (if min sl len = 0 then some (AV.int .i64 0, H) else none) else match wr H r v off cs with | some H' => some (.int .i64 (min sl len : Nat), H') | none => none) = some (y, H'))
    (hd : VR m (.slice r v off len e.size) cd) (hx : VR m x cx) (rw : RW m H w base) (nocopy : (match x with | .vec .. | .own .. => True | _ => False) → False) : Good P (do pure (.value (← Builtin.copy_ ts ty #[cd, cx]))) m w base y H' := by
  have hu := ti_slice (hti _ _ ht) hk
  have hsz := ti_size (hti _ _ he) w
  simp only [VR] at hd
  obtain ⟨B, N, cap, hm, _, _, _, rfl⟩ := hd
  -- what is read
  have key : ∃ us, VRs m cs us ∧ (Builtin.lenOf cx).run P w = .ok sl w ∧ (Builtin.firstCells e.size (min sl len) cx).run P w = .ok us.toArray w := by
    cases x <;> simp only [srcLen] at hl <;> try (cases hl; done)
    case nils =>
      cases hl
      simp only [VR] at hx
      subst hx
      simp only [srcCells, Nat.zero_min, if_true] at hsrc
      cases hsrc
      exact ⟨[], by simp [VRs], rfl, rfl⟩
    case slice r' v' off' len' z' =>
      cases hl
      simp only [srcCells] at hsrc
      split at hsrc
      · rename_i hc
        simp only [VR] at hx
        obtain ⟨B', N', cap', hm', _, _, _, rfl⟩ := hx
        obtain ⟨hn, us, hv, hcell⟩ := rd_ok hsrc rw hm'
        have hlen := VRs.len hv
        refine ⟨us, hv, rfl, ?_⟩
        have := loadCells_ok (P := P) hcell
        rw [show us.length = min sl len * e.size by omega] at this
        exact this
      · cases hsrc
    case vec n' z' cells =>
      simp only [srcCells] at hsrc
      exact (nocopy trivial).elim
    case own r' len' z' =>
      exact (nocopy trivial).elim
    case str s =>
      cases hl
      simp only [srcCells] at hsrc
      split at hsrc
      · rename_i hc
        cases hsrc
        simp only [VR] at hx
        obtain ⟨q, rfl, rfl⟩ := hx
        have key : ∀ l : List UInt8, VRs m (l.map fun b => AV.int .u8 (b.toNat : Int)) (l.map fun b => Value.int .u8 b.toNat) := by
          intro l
          induction l with
          | nil => simp [VRs]
          | cons b l ih => simp only [List.map_cons, VRs, VR]; exact ⟨_, _, rfl, rfl, ih⟩
        refine ⟨(q.data.toList.take (min (q.data.toList.map (·.toNat)).length len)).map fun b => Value.int .u8 b.toNat, ?_, by simp [Builtin.lenOf], ?_⟩
        · rw [← List.map_take, List.map_map]
          exact key _
        · simp only [Builtin.firstCells, Sem.run_pure]
          congr 1
          apply Array.ext'
          rw [Array.toList_map, ByteArray.data_extract, Array.toList_extract]
          simp [List.extract]
      · cases hsrc
  obtain ⟨us, hv, e1, e2⟩ := key
  have hmin : Nat.min sl len = min sl len := rfl
  split at hw
  · rename_i h00
    split at hw
    case isFalse => cases hw
    rename_i hcn
    cases hw
    have hus : us = [] := by
      have := VRs.len hv
      cases us with
      | nil => rfl
      | cons => simp at this; omega
    subst hus
    refine Good.val (.int .i64 0) ?_ rw (by simp only [VR])
    have hm0 := hcn
    rw [hm0] at e2
    simp [Builtin.copy_, h0, run_underlying hu, e1, hsz, hmin, e2, storeCells, goInt, hm0]
  · cases hwr : wr H r v off cs with
    | none => rw [hwr] at hw; cases hw
    | some H1 =>
      rw [hwr] at hw
      cases hw
      obtain ⟨w', q1, q2, q3⟩ := wr_ok (P := P) hwr rw hm hv
      refine ⟨m, w', q2, q3, .inl ⟨.int .i64 (min sl len : Nat), ?_, by simp only [VR]⟩⟩
      simp [Builtin.copy_, h0, run_underlying hu, e1, hsz, hmin, e2, q1, goInt]
end Go.Proofs.Ytfkefelgjbfkjaa.Am

/-! Each operation of the abstract machine tells what Go's machine does: all of them together. -/
set_option linter.unusedVariables false
set_option linter.unusedSimpArgs false
namespace Go.Proofs.Ytfkefelgjbfkjaa.Am
open Go

theorem fillL_length {place : Nat → Option (Nat × Nat)} : ∀ (parts : List (Nat × AV)) (cells out : List AV), fillL place cells parts = some out → out.length = cells.length
  | [], cells, out, h => by simp only [fillL] at h; cases h; rfl
  | (i, v) :: parts, cells, out, h => by
    simp only [fillL] at h
    cases hp : place i with
    | none => rw [hp] at h; cases h
    | some q =>
      obtain ⟨off, size⟩ := q
      rw [hp] at h
      simp only at h
      split at h
      · rw [fillL_length parts _ out h, putL_length]
      · cases h
theorem Good.of {P : Program} {s : Sem Value} {m : Mp} {H : Hp} {w : World} {base : Nat} {v : AV} (rw : RW m H w base) (h : ∃ e, s.run P w = .ok e w ∧ VR m v e) : Good P (do pure (.value (← s))) m w base v H := by
  obtain ⟨e, h1, h2⟩ := h
  exact Good.val e (by simp [h1]) rw h2
theorem map_some {α β : Type} {f : α → β} {x : Option α} {y : β} (h : x.map f = some y) : ∃ z, x = some z ∧ f z = y := by
  cases x with
  | none => cases h
  | some z => exact ⟨z, rfl, by simpa using h⟩
theorem VRo_map {m : Mp} {env : Env} {a : Act} (fr : FR m env a.tmps) (x : Option Operand) : VRo m (x.map (opnd env)) (x.map a.eval) := by
  cases x with
  | none => exact True.intro
  | some x => exact opnd_ok fr x
theorem builtin_sound {P : Program} {C : Cx} (hti : ∀ t i, C.ti t = some i → mkTi P t = some i) {m : Mp} {H H' : Hp} {w : World} {base : Nat} {b : Builtin} {ts : Array TypeId} {ty : TypeId} {cn : Array Bool} {xs : List AV} {cs : Array Value} {v : AV} (h : callB C H b ts.toList xs = some (v, H')) (hx : VRs m xs cs.toList) (rw : RW m H w base) :
    Good P (builtin b ts ty cn cs) m w base v H' := by
  obtain ⟨ts⟩ := ts
  obtain ⟨cs⟩ := cs
  simp only at h hx
  unfold callB at h
  split at h
  · rename_i t ts' x
    simp only [VRs] at hx
    obtain ⟨c, cs', rfl, hc, rfl⟩ := hx
    cases ht : C.ti t with
    | none => rw [ht] at h; cases h
    | some i =>
      rw [ht] at h
      simp only at h
      split at h
      · rename_i s hk
        cases h
        exact Good.of rw (op_len_string hti ht (by simp) hk hc)
      · rename_i hk
        cases h
        exact Good.of rw (op_len_array hti ht (by simp) hk)
      · rename_i r v' off len sz hk
        cases h
        simp only [VR] at hc
        obtain ⟨B, N, cap, _, _, _, _, rfl⟩ := hc
        exact Good.of rw (op_len_slice hti ht (by simp) hk rfl)
      · rename_i hk
        cases h
        simp only [VR] at hc
        subst hc
        exact Good.of rw (op_len_slice hti ht (by simp) hk rfl)
      · rename_i n sz cells hk
        cases h
        simp only [VR] at hc
        obtain ⟨_, a, cap, rfl, _⟩ := hc
        exact Good.of rw (op_len_slice hti ht (by simp) hk rfl)
      · rename_i r len sz hk
        cases h
        simp only [VR] at hc
        rcases hc with ⟨rfl, rfl⟩ | ⟨B, N, cap, _, _, _, rfl⟩
        · exact Good.of rw (op_len_slice hti ht (by simp) hk rfl)
        · exact Good.of rw (op_len_slice hti ht (by simp) hk rfl)
      · cases h
  · rename_i t u s x
    simp only [VRs] at hx
    obtain ⟨c, cs', rfl, hc, d, ds, rfl, hd, rfl⟩ := hx
    cases ht : C.ti t with
    | none => rw [ht] at h; cases h
    | some i =>
      cases hu : C.ti u with
      | none => rw [ht, hu] at h; cases h
      | some j =>
        rw [ht, hu] at h
        simp only at h
        split at h
        · rename_i e hk he
          split at h
          · rename_i n z hjk hl hz
            split at h
            · rename_i new hsrc
              split at h
              · rename_i hzl
                refine appendW hti ht hk he hz hzl ?_ hl hsrc h hc hd rw
                simp only [Bool.or_eq_true, beq_iff_eq] at hjk
                rcases hjk with hjk | hjk
                · exact .inl ⟨_, ti_slice (hti _ _ hu) hjk⟩
                · exact .inr (ti_string (hti _ _ hu) hjk)
              · cases h
            · cases h
          · cases h
        · cases h
  · rename_i t ts' d x
    simp only [VRs] at hx
    obtain ⟨c, cs', rfl, hc, y, ys, rfl, hy, rfl⟩ := hx
    cases ht : C.ti t with
    | none => rw [ht] at h; cases h
    | some i =>
      rw [ht] at h
      simp only at h
      split at h
      · rename_i e r v' off len z sl hk he hl
        split at h
        · rename_i hz
          obtain ⟨rfl, hz0, hnc⟩ := hz
          cases hsrc : srcCells H e.size (min sl len) x with
          | none => rw [hsrc] at h; cases h
          | some cs =>
            rw [hsrc] at h
            exact copyGood hti ht (by simp) hk he hl hsrc h hc hy rw (fun hh => by cases x <;> simp only [noCopy] at hnc hh <;> first | exact hh | cases hnc)
        · cases h
      · cases h
  · rename_i ts' k x k' y
    cases h
    simp only [VRs, VR] at hx
    obtain ⟨c, cs', rfl, rfl, d, ds, rfl, rfl, rfl⟩ := hx
    refine Good.of rw ⟨.int k (if x < y then y else x), ?_, by simp only [VR]⟩
    simp [Builtin.max_, Builtin.max2]
  · rename_i ts' k x k' y
    cases h
    simp only [VRs, VR] at hx
    obtain ⟨c, cs', rfl, rfl, d, ds, rfl, rfl, rfl⟩ := hx
    refine Good.of rw ⟨.int k (if y < x then y else x), ?_, by simp only [VR]⟩
    simp [Builtin.min_, Builtin.min2]
  · cases h
theorem opV_sound {P : Program} {C : Cx} (hti : ∀ t i, C.ti t = some i → mkTi P t = some i) {m : Mp} {H H' : Hp} {w : World} {base : Nat} {env : Env} {a : Act} {o : Oper} {v : AV} (h : opV C env H o = some (v, H')) (fr : FR m env a.tmps) (rw : RW m H w base) :
    Good P (execOp a.eval o) m w base v H' := by
  have hx := fun x => opnd_ok fr x
  obtain ⟨dst, op, type, pos, after, guard⟩ := o
  cases op <;> simp only [opV] at h <;> try (cases h; done)
  case move x => cases h; exact Good.val _ rfl rw (hx x)
  case assign x => cases h; exact Good.val _ rfl rw (hx x)
  case pick c x y =>
    split at h
    · rename_i t hc
      cases h
      have h1 := hx c
      rw [hc] at h1
      simp only [VR] at h1
      cases t with
      | true => exact Good.val (a.eval x) (by simp [execOp, h1, asBool]) rw (hx x)
      | false => exact Good.val (a.eval y) (by simp [execOp, h1, asBool]) rw (hx y)
    · cases h
  case alloc t =>
    cases ht : C.ti t with
    | none => rw [ht] at h; cases h
    | some i =>
      rw [ht] at h
      simp only at h
      cases hz : i.zero with
      | none => rw [hz] at h; cases h
      | some z => rw [hz] at h; exact op_alloc hti ht hz h rw
  case box t x =>
    split at h
    · rename_i hi
      exact op_box hi (hx x) h rw
    · cases h
  case build t parts =>
    obtain ⟨e1, e2⟩ := parts_ok fr parts
    cases ht : C.ti t with
    | none => rw [ht] at h; cases h
    | some i =>
      rw [ht] at h
      simp only at h
      cases hz : i.zero with
      | none => rw [hz] at h; cases h
      | some z =>
        rw [hz] at h
        simp only at h
        split at h
        · rename_i hk
          cases hf : fieldsZ C i.fields with
          | none => rw [hf] at h; cases h
          | some fs =>
            rw [hf] at h
            obtain ⟨out, ho, he⟩ := map_some h
            cases he
            exact Good.of rw (op_build_struct hti ht hz hk hf ho e1 e2)
        · rename_i hk
          cases hn : sizeOfT C i.elem with
          | none => rw [hn] at h; cases h
          | some n =>
            rw [hn] at h
            obtain ⟨out, ho, he⟩ := map_some h
            cases he
            exact Good.of rw (op_build_array hti ht hz hk hn ho e1 e2)
        · cases h
  case buildSlice t len parts =>
    obtain ⟨e1, e2⟩ := parts_ok fr parts
    cases ht : C.ti t with
    | none => rw [ht] at h; cases h
    | some i =>
      rw [ht] at h
      simp only at h
      split at h
      · rename_i e hk he
        cases hz : e.zero with
        | none => rw [hz] at h; cases h
        | some z =>
          rw [hz] at h
          simp only at h
          split at h
          · rename_i hc
            obtain ⟨q1, q2, q3⟩ := hc
            split at h
            · rename_i cs hcs
              split at h
              · rename_i r v' o' H1 ha
                cases h
                refine op_buildSlice hti ht hk he hz q1 q2 q3 hcs ?_ e1 e2 ha rw
                rw [fillL_length _ _ _ hcs, rep_length, q1]
              · cases h
            · cases h
          · cases h
      · cases h
  case load t x =>
    split at h
    · rename_i i r v' off ht hp
      split at h
      · rename_i cs hcs
        obtain ⟨y, hy, he⟩ := map_some h
        cases he
        have h1 := hx x
        rw [hp] at h1
        exact op_load hti ht h1 hcs hy rw
      · cases h
    · rename_i i cs ht hp
      split at h
      · rename_i hle
        obtain ⟨y, hy, he⟩ := map_some h
        cases he
        have h1 := hx x
        rw [hp] at h1
        exact op_load_v hti ht h1 hle hy rw
      · cases h
    · cases h
  case store t x y =>
    split at h
    · rename_i i r v' off ht hp
      split at h
      · rename_i hc
        obtain ⟨H1, hw, he⟩ := map_some h
        cases he
        have h1 := hx x
        rw [hp] at h1
        exact op_store hti ht h1 (hx y) hc.1 hc.2 hw rw
      · cases h
    · cases h
  case nilCheck x =>
    have h1 := hx x
    split at h
    · rename_i r v' off hp
      cases h
      rw [hp] at h1
      have h2 := h1
      simp only [VR] at h2
      obtain ⟨B, N, _, e⟩ := h2
      exact Good.val (a.eval x) (by simp [execOp, e]) rw h1
    · rename_i cs hp
      cases h
      rw [hp] at h1
      have h2 := h1
      simp only [VR] at h2
      obtain ⟨i, B, off, all, _, e, _⟩ := h2
      exact Good.val (a.eval x) (by simp [execOp, e]) rw h1
    · rename_i f p q hp
      cases h
      rw [hp] at h1
      have h2 := h1
      simp only [VR] at h2
      obtain ⟨ys, zs, e, _⟩ := h2
      exact Good.val (a.eval x) (by simp [execOp, e]) rw h1
    · cases h
  case binOp op t x y k =>
    obtain ⟨z, hz, he⟩ := map_some h
    cases he
    obtain ⟨e, h1, h2⟩ := binV_ok (P := P) (w := w) hti hz (hx x) (hx y) x y
    exact Good.of rw ⟨e, h1, h2⟩
  case unOp op t x =>
    obtain ⟨z, hz, he⟩ := map_some h
    cases he
    exact Good.of rw (unV_ok hz (hx x))
  case convert s d x =>
    obtain ⟨rfl, h1⟩ := convV_ok (P := P) hti h (hx x) rw
    exact Good.of rw h1
  case makeInterface t x =>
    cases ht : C.ti t with
    | none => rw [ht] at h; cases h
    | some i =>
      rw [ht] at h
      simp only at h
      split at h
      · cases h
      · rename_i hk
        cases h
        exact Good.of rw (op_makeInterface hti ht (fun e => hk e) (hx x))
  case makeFunc fn first caps =>
    cases fn <;> simp only at h <;> try (cases h; done)
    rename_i f
    cases h
    refine Good.val (.func (.func f) (first.map a.eval) (caps.map a.eval)) (by simp [execOp, Instr.makeFunc]) rw ?_
    simp only [VR]
    exact ⟨_, _, rfl, by simpa using opnds_ok fr first.toList, by simpa using opnds_ok fr caps.toList⟩
  case makeSlice t l c =>
    split at h
    · rename_i i k n k' n' ht hl hc
      split at h
      · rename_i e hk he
        cases hz : e.zero with
        | none => rw [hz] at h; cases h
        | some z =>
          rw [hz] at h
          simp only at h
          split at h
          · rename_i hq
            obtain ⟨rfl, q1, q2, q3, q4, q5⟩ := hq
            split at h
            · rename_i r v' o' H1 ha
              cases h
              have h1 := hx l
              have h2 := hx c
              rw [hl] at h1
              rw [hc] at h2
              exact op_makeSlice hti ht hk he hz q4 q5 q1 q2 q3 h1 h2 ha rw
            · cases h
          · cases h
      · cases h
    · cases h
  case slice t x lo hi mx =>
    cases mx with
    | some _ => cases h
    | none =>
      simp only at h
      obtain ⟨z, hz, he⟩ := map_some h
      cases he
      have := sliceV_ok (P := P) (w := w) hti hz (hx x) (VRo_map fr lo) (VRo_map fr hi) rw.vle
      exact Good.of rw this
  case fieldAddr s x f =>
    split at h
    · rename_i i r v' off hs hp
      split at h
      · rename_i o' t hk hf
        cases hz : sizeOfT C t with
        | none => rw [hz] at h; cases h
        | some z =>
          rw [hz] at h
          simp only at h
          split at h
          · cases h
          · rename_i h0
            cases h
            have h1 := hx x
            rw [hp] at h1
            exact Good.of rw (op_fieldAddr hti hs hk hf hz h0 h1)
      · cases h
    · rename_i i cs hs hp
      split at h
      · rename_i o' t hk hf
        cases hz : sizeOfT C t with
        | none => rw [hz] at h; cases h
        | some z =>
          rw [hz] at h
          simp only at h
          split at h
          · rename_i h0
            cases h
            have h1 := hx x
            rw [hp] at h1
            exact Good.of rw (op_fieldAddr_v hti hs hk hf hz h0.1 h0.2 h1)
          · cases h
      · cases h
    · cases h
  case field t x f =>
    split at h
    · rename_i i cs ht hp
      split at h
      · rename_i o' u hk hf
        cases hj : C.ti u with
        | none => rw [hj] at h; cases h
        | some j =>
          rw [hj] at h
          obtain ⟨z, hz, he⟩ := map_some h
          cases he
          have h1 := hx x
          rw [hp] at h1
          exact Good.of rw (op_field hti ht hk hf hj h1 hz)
      · cases h
    · cases h
  case indexAddr t x ix =>
    have h1 := hx x
    have h2 := hx ix
    split at h
    · rename_i i r v' off len sz k n ht hp hi
      rw [hp] at h1
      rw [hi] at h2
      split at h
      · rename_i z hk hz
        split at h
        · rename_i hc
          cases h
          exact Good.of rw (op_indexAddr_slice hti ht hk hz hc.1 hc.2.1 hc.2.2 h1 h2)
        · cases h
      · cases h
    · rename_i i r v' off k n ht hp hi
      rw [hp] at h1
      rw [hi] at h2
      split at h
      · rename_i z hk hz
        split at h
        · rename_i hc
          cases h
          exact Good.of rw (op_indexAddr_array hti ht hk hz hc.1 hc.2 h1 h2)
        · cases h
      · cases h
    · rename_i i q sz cells k n ht hp hi
      rw [hp] at h1
      rw [hi] at h2
      split at h
      · rename_i z hk hz
        split at h
        · rename_i hc
          cases h
          exact Good.of rw (op_indexAddr_vec hti ht hk hz hc.1 hc.2.1 hc.2.2 h1 h2)
        · cases h
      · cases h
    · rename_i i r len sz k n ht hp hi
      rw [hp] at h1
      rw [hi] at h2
      split at h
      · rename_i z hk hz
        split at h
        · rename_i hc
          cases h
          have := op_indexAddr_slice (P := P) (w := w) hti ht hk hz hc.1 hc.2.1 hc.2.2 (own_slice h1 (by have := hc.2.1; have := hc.2.2; omega)) h2
          rw [Nat.zero_add] at this
          exact Good.of rw this
        · cases h
      · cases h
    · cases h
  case index t x ix =>
    have h1 := hx x
    have h2 := hx ix
    split at h
    · rename_i i s k n ht hp hi
      rw [hp] at h1
      rw [hi] at h2
      split at h
      · rename_i hk
        split at h
        · rename_i h0
          split at h
          · rename_i b hb
            cases h
            exact Good.of rw (op_index_string hti ht hk h0 hb h1 h2)
          · cases h
        · cases h
      · cases h
    · rename_i i cs k n ht hp hi
      rw [hp] at h1
      rw [hi] at h2
      split at h
      · rename_i j hk hj
        split at h
        · rename_i hc
          obtain ⟨z, hz, he⟩ := map_some h
          cases he
          exact Good.of rw (op_index_array hti ht hk hj hc.1 hc.2 h1 h2 hz)
        · cases h
      · cases h
    · cases h
  case typeAssert x xt T ok =>
    split at h
    · rename_i i t y ht hp
      split at h
      · cases h
      · rename_i hk
        split at h
        · rename_i e
          subst e
          cases h
          have h1 := hx x
          rw [hp] at h1
          exact Good.of rw (op_typeAssert hti ok ht (fun e => hk e) h1)
        · cases h
    · cases h
  case extract t ix =>
    split at h
    · rename_i vs hp
      split at h
      · rename_i y hy
        cases h
        have h1 := hx t
        rw [hp] at h1
        exact Good.of rw (op_extract hy h1)
      · cases h
    · cases h
  case call c =>
    obtain ⟨callee, args, ts⟩ := c
    cases callee <;> simp only at h <;> try (cases h; done)
    rename_i b
    show Good P (do let d ← resolve a.eval ⟨.builtin b, args, ts⟩ type; invoke d.target d.args) m w base v H'
    simp only [resolve, pure_bind, invoke]
    exact builtin_sound hti h (by simpa using opnds_ok fr args.toList) rw
end Go.Proofs.Ytfkefelgjbfkjaa.Am

/-! The abstract machine's regions: guards, results, classes of operations. -/
set_option linter.unusedVariables false
namespace Go.Proofs.Ytfkefelgjbfkjaa.Am
open Go

noncomputable def args0 : Nat → List AV → Env
  | _, [] => []
  | i, v :: r => putE (args0 (i + 1) r) i v
/-- A list's i-th part. -/
noncomputable def nth {α : Type} (l : List α) : Nat → Option α :=
  List.rec (motive := fun _ => Nat → Option α) (fun _ => none) (fun x _ ih i => bif Nat.beq i 0 then some x else ih (Nat.pred i)) l
theorem nth_eq {α : Type} : ∀ (l : List α) (i : Nat), nth l i = l[i]?
  | [], i => by simp [nth]
  | x :: l, i => by
    cases i with
    | zero => rfl
    | succ i => rw [List.getElem?_cons_succ, ← nth_eq l i]; rfl
noncomputable def wantedV (o : Oper) (all : List Oper) (env : Env) : Option Bool :=
  match o.guard with
  | none => some true
  | some (j, want) => match nth all j with
    | some p => match p.dst with
      | some d => match look env d with | .bool b => some (bif b then want else !want) | .tuple [] => some false | _ => none
      | none => none
    | none => none
noncomputable def putV (env : Env) (d : Option Nat) (v : AV) : Env :=
  match d with
  | some d => putE env d v
  | none => env
noncomputable def resV (C : Cx) (env : Env) (H : Hp) : List ResultVar → Option (List AV)
  | [] => some []
  | .tmp t :: r => match resV C env H r with | some l => some (look env t :: l) | none => none
  | .cell a t :: r => match C.ti t, look env a, resV C env H r with
    | some i, .ptr q v off, some l => match rd H q v off i.size with
      | some cs => match mkVal i.kind.isAgg cs with | some x => some (x :: l) | none => none
      | none => none
    | _, _, _ => none
def oneRes : List AV → AV
  | [x] => x
  | l => .tuple l
noncomputable def opnds (env : Env) : List Operand → List AV
  | [] => []
  | x :: l => opnd env x :: opnds env l
theorem opnds_eq (env : Env) : ∀ l : List Operand, opnds env l = l.map (opnd env)
  | [] => rfl
  | x :: l => by rw [opnds, opnds_eq env l]; rfl
/-- 0: an operation looks at no memory; 1: it reads memory; 2: any other. -/
def cls (o : Oper) : Nat :=
  match o.op with
  | .move _ | .assign _ | .pick .. | .binOp .. | .unOp .. | .makeInterface .. | .makeFunc .. | .field .. | .index .. | .extract .. | .typeAssert .. | .fieldAddr .. | .indexAddr .. | .nilCheck .. | .build .. | .slice .. => 0
  | .load .. | .convert .. => 1
  | .call c => match c.callee with
    | .builtin .len | .builtin .max | .builtin .min => 0
    | _ => 2
  | _ => 2
def lastH (H : Hp) : List Hp → Hp
  | [] => H
  | h :: l => lastH h l
def H0 : Hp := ⟨0, .nil⟩
end Go.Proofs.Ytfkefelgjbfkjaa.Am

/-! The abstract machine's runs tell Go's runs: rules, and what has to hold of the tables. -/
set_option linter.unusedVariables false
set_option linter.unusedSimpArgs false
namespace Go.Proofs.Ytfkefelgjbfkjaa.Am
open Go

/-- The rest of a scope runs: by a goto to one of its labels it goes on there. -/
def ScopeWp (P : Program) (body c : Code) (Q : Exit → Act → World → Prop) (a : Act) (w : World) : Prop :=
  ∀ (b : Frame) (k : List Item) (cs : List Frame), ∃ e a' w', Q e a' w' ∧ Arrives P (lone (b.at a (.code c :: .inScope body :: k)) cs w) b k cs e a' w'
theorem ScopeWp.of {P : Program} {body c : Code} {Q : Exit → Act → World → Prop} {a : Act} {w : World} (h : c.wp P (fun e a1 w1 => match e with | .goto l => ∃ rest, findLabel body l = some rest ∧ ScopeWp P body rest Q a1 w1 | e => Q e a1 w1) a w) : ScopeWp P body c Q a w := by
  intro b k cs
  obtain ⟨e, a₁, w₁, hq, harr⟩ := h b (.inScope body :: k) cs
  cases e with
  | normal => exact ⟨.normal, a₁, w₁, hq, Steps.trans harr (.one step_inScope)⟩
  | exit id => exact ⟨.exit id, a₁, w₁, hq, fun k' hk => harr k' (by simp [exitTo, hk])⟩
  | goto l =>
    obtain ⟨rest, hf, hr⟩ := hq
    obtain ⟨e₂, a₂, w₂, hq₂, harr₂⟩ := hr b k cs
    exact ⟨e₂, a₂, w₂, hq₂, .of_steps (harr _ (by simp [gotoIn, hf])) harr₂⟩
  | ret => exact ⟨_, a₁, w₁, hq, harr⟩
  | panic ch => exact ⟨_, a₁, w₁, hq, harr⟩
  | outgrown => exact ⟨_, a₁, w₁, hq, harr⟩
theorem ScopeWp.wp {P : Program} {c : Code} {Q : Exit → Act → World → Prop} {a : Act} {w : World} (h : ScopeWp P c c Q a w) : (Code.scope c).wp P Q a w := by
  intro b k cs
  obtain ⟨e, a', w', hq, harr⟩ := h b k cs
  exact ⟨e, a', w', hq, .of_steps (.one step_scope) harr⟩
/-- The rest of a loop's round runs. -/
def LoopWp (P : Program) (c : Code) (Q : Exit → Act → World → Prop) (a : Act) (w : World) : Prop :=
  ∀ (b : Frame) (k : List Item) (cs : List Frame), ∃ e a' w', Q e a' w' ∧ Arrives P (lone (b.at a (.code c :: .inLoop c :: k)) cs w) b k cs e a' w'
theorem LoopWp.of {P : Program} {c : Code} {Q : Exit → Act → World → Prop} {a : Act} {w : World} (h : c.wp P (Exit.then (LoopWp P c Q) Q) a w) : LoopWp P c Q a w := by
  intro b k cs
  obtain ⟨e, a₁, w₁, hq, harr⟩ := h b (.inLoop c :: k) cs
  cases e with
  | normal =>
    obtain ⟨e₂, a₂, w₂, hq₂, harr₂⟩ := hq b k cs
    exact ⟨e₂, a₂, w₂, hq₂, .of_steps (Steps.trans harr (.one step_inLoop)) harr₂⟩
  | exit id => exact ⟨_, a₁, w₁, hq, .pass (x := .inLoop c) rfl (fun _ _ => .inl (by simp)) harr⟩
  | goto l => exact ⟨_, a₁, w₁, hq, .pass (x := .inLoop c) rfl (fun _ _ => .inl (by simp)) harr⟩
  | ret => exact ⟨_, a₁, w₁, hq, .pass (x := .inLoop c) rfl (fun _ _ => .inl (by simp)) harr⟩
  | panic ch => exact ⟨_, a₁, w₁, hq, .pass (x := .inLoop c) rfl (fun _ _ => .inl (by simp)) harr⟩
  | outgrown => exact ⟨_, a₁, w₁, hq, .pass (x := .inLoop c) rfl (fun _ _ => .inl (by simp)) harr⟩
theorem LoopWp.wp {P : Program} {c : Code} {Q : Exit → Act → World → Prop} {a : Act} {w : World} (h : LoopWp P c Q a w) : (Code.loop c).wp P Q a w := by
  intro b k cs
  obtain ⟨e, a', w', hq, harr⟩ := h b k cs
  exact ⟨e, a', w', hq, .of_steps (.one step_loop) harr⟩

theorem upon_mono2 {P : Program} {o : Oper} {a : Act} {K K' : Act → World → Prop} {Q Q' : Exit → Act → World → Prop} (hk : ∀ a w, K a w → K' a w) (hq : ∀ e a w, Q e a w → Q' e a w) (r : Result Next) (h : o.upon P a K Q r) : o.upon P a K' Q' r := by
  cases r with
  | ok n w' =>
    cases n <;> simp only [Oper.upon] at h ⊢ <;>
      first
        | exact hk _ _ h
        | exact Rows.mono h (fun _ _ he => hk _ _ he)
        | skip
    refine Calls.mono h fun e w'' he => ?_
    cases e with
    | returned v => exact hk _ _ he
    | panicked c => exact hq _ _ _ he
    | outgrown => obtain ⟨a', w', he⟩ := he; exact ⟨a', w', hq _ _ _ he⟩
  | halt x w' => cases x <;> simp only [Oper.upon] at h ⊢ <;> exact hq _ _ _ h
theorem wpOps_mono {P : Program} {ops : Array Oper} {Q Q' : Exit → Act → World → Prop} (hq : ∀ e a w, Q e a w → Q' e a w) : ∀ (l : List Nat) (a : Act) (w : World), wpOps P ops Q l a w → wpOps P ops Q' l a w
  | [], a, w, h => hq _ _ _ h
  | i :: l, a, w, h => by
    simp only [wpOps] at h ⊢
    split at h
    · exact wpOps_mono hq l _ _ h
    · split at h
      · rename_i hw
        rw [if_pos hw]
        rcases h with h | ⟨h1, a', w', h2⟩
        · exact .inl (upon_mono2 (fun a w => wpOps_mono hq l a w) hq _ h)
        · exact .inr ⟨h1, a', w', hq _ _ _ h2⟩
      · rename_i hw
        rw [if_neg hw]
        exact wpOps_mono hq l _ _ h

def dstOk (n : Nat) (o : Oper) : Bool := match o.dst with | some d => Nat.blt d n | none => true
/-- After a region. -/
def Post (m : Mp) (w : World) (base n : Nat) (env : Env) (H : Hp) : Exit → Act → World → Prop := fun x a' w' =>
  x = .normal ∧ ∃ m', RW m' H w' base ∧ St m w base m' w' ∧ FR m' env a'.tmps ∧ n ≤ a'.tmps.size ∧ a'.defers = []
/-- A call is told. -/
def CallV (P : Program) (g : Nat) (xs : List AV) (H : Hp) (v : AV) (H' : Hp) : Prop :=
  (∀ (m : Mp) (w : World) (base : Nat) (args : Array Value), VRs m xs args.toList → RW m H w base → Calls P g args w fun x w' => ∃ m' c, x = .returned c ∧ RW m' H' w' base ∧ St m w base m' w' ∧ VR m' v c) ∧
  (∃ fn, P.funcs[g]? = some fn ∧ (fn.name == "runtime.NumGoroutine") = false ∧ fn.body.isSome = true)
/-- An operation gives a value. -/
def Stp (P : Program) (C : Cx) (env : Env) (H : Hp) (o : Oper) (v : AV) (H' : Hp) : Prop :=
  opV C env H o = some (v, H') ∨ ∃ c g f first caps, o.op = .call c ∧ c.callee = .value g ∧ opnd env g = .func f first caps ∧ CallV P f (first ++ opnds env c.args.toList ++ caps) H v H'

theorem wanted_ok {m : Mp} {env : Env} {a : Act} {ops : Array Oper} {o : Oper} {b : Bool} (h : wantedV o ops.toList env = some b) (fr : FR m env a.tmps) : Region.wanted o (yielded ops a.tmps) = b := by
  unfold wantedV at h
  unfold Region.wanted
  split at h <;> rename_i hg <;> rw [hg]
  · cases h; rfl
  · rename_i j want
    simp only
    rw [nth_eq] at h
    cases hp : ops.toList[j]? with
    | none => rw [hp] at h; cases h
    | some p =>
      rw [hp] at h
      simp only at h
      cases hd : p.dst with
      | none => rw [hd] at h; cases h
      | some d =>
        rw [hd] at h
        simp only at h
        split at h
        · rename_i t hl
          cases h
          obtain ⟨c, h1, h2⟩ := fr d (by rw [hl]; intro e; cases e)
          rw [hl] at h2
          simp only [VR] at h2
          subst h2
          rw [Array.getElem?_toList] at hp
          simp only [yielded, hp, Option.bind_some, hd, h1]
          cases t <;> cases want <;> rfl
        · rename_i hl
          cases h
          obtain ⟨c, h1, h2⟩ := fr d (by rw [hl]; intro e; cases e)
          rw [hl] at h2
          simp only [VR, VRs] at h2
          obtain ⟨ys, rfl, _⟩ := h2
          rw [Array.getElem?_toList] at hp
          simp only [yielded, hp, Option.bind_some, hd, h1]
          rfl
        · cases h
theorem act_put_frame {m : Mp} {env : Env} {a : Act} {n : Nat} (fr : FR m env a.tmps) (hn : n ≤ a.tmps.size) (hd : a.defers = []) (o : Oper) (ho : dstOk n o = true) (v : AV) (c : Value) (hv : VR m v c) :
    FR m (putV env o.dst v) (a.put o.dst c).tmps ∧ n ≤ (a.put o.dst c).tmps.size ∧ (a.put o.dst c).defers = [] := by
  unfold dstOk at ho
  cases h : o.dst with
  | none => exact ⟨fr, hn, hd⟩
  | some d =>
    rw [h] at ho
    simp only [putV, Act.put]
    have hlt : d < n := by simpa using ho
    exact ⟨fr.put d v c hv (.inl (Nat.lt_of_lt_of_le hlt hn)), by simpa using hn, hd⟩
theorem VR_undef (m : Mp) : VR m (.tuple []) undef := by simp [VR, VRs, undef]
theorem VR_top (m : Mp) (c : Value) : VR m .top c := by simp [VR]

/-- One operation, told. -/
def StepOk (P : Program) (o : Oper) (a : Act) (m : Mp) (w : World) (base : Nat) (v : AV) (H' : Hp) : Prop :=
  ∀ (K : Act → World → Prop) (Q : Exit → Act → World → Prop), (∀ m' w' c, RW m' H' w' base → St m w base m' w' → VR m' v c → K (a.put o.dst c) w') → o.wp P a w K Q
theorem stepOk_opV {P : Program} {C : Cx} (hti : ∀ t i, C.ti t = some i → mkTi P t = some i) {m : Mp} {H H' : Hp} {w : World} {base : Nat} {env : Env} {a : Act} {o : Oper} {v : AV} (h : opV C env H o = some (v, H')) (fr : FR m env a.tmps) (rw : RW m H w base) : StepOk P o a m w base v H' := by
  intro K Q hK
  obtain ⟨m', w', h1, h2, h3⟩ := opV_sound hti h fr rw
  unfold Oper.wp
  rcases h3 with ⟨c, hr, hv⟩ | ⟨hr, rfl⟩
  · rw [hr]; exact hK m' w' c h1 h2 hv
  · rw [hr]; exact hK m' w' undef h1 h2 (VR_top _ _)
theorem stp_ok {P : Program} {C : Cx} (hti : ∀ t i, C.ti t = some i → mkTi P t = some i) {m : Mp} {H H' : Hp} {w : World} {base : Nat} {env : Env} {a : Act} {o : Oper} {v : AV} (h : Stp P C env H o v H') (fr : FR m env a.tmps) (rw : RW m H w base) : StepOk P o a m w base v H' := by
  rcases h with h | ⟨c, g, f, first, caps, ho, hg, hgf, hcall, fn, e1, e2, e3⟩
  · exact stepOk_opV hti h fr rw
  have hgv := opnd_ok fr g
  have hargs := opnds_ok fr c.args.toList
  rw [← opnds_eq] at hargs
  rw [hgf] at hgv
  simp only [VR] at hgv
  obtain ⟨ys, zs, hgv, hy, hz⟩ := hgv
  have hall : VRs m (first ++ opnds env c.args.toList ++ caps) (ys ++ c.args.map a.eval ++ zs).toList := by
    simp only [Array.toList_append, Array.toList_map]
    exact VRs.append (VRs.append hy hargs) hz
  have hexec : (execOp a.eval o).run P w = .ok (.enter f (ys ++ c.args.map a.eval ++ zs)) w := by
    have h2' : ¬ fn.name = "runtime.NumGoroutine" := by simpa using e2
    have h3' : ¬ fn.body = none := by intro e; rw [e] at e3; cases e3
    simp [execOp, ho, resolve, hg, hgv, Deferred.ofValue, invoke, callFunc, e1, h2', h3']
  intro K Q hK
  unfold Oper.wp
  rw [hexec]
  refine Calls.mono (hcall m w base _ hall rw) ?_
  rintro x w' ⟨m', v', rfl, q1, q2, q3⟩
  exact hK m' w' v' q1 q2 q3
end Go.Proofs.Ytfkefelgjbfkjaa.Am

/-! Regions whose order is drawn: every order ends alike. -/
set_option linter.unusedVariables false
set_option linter.unusedSimpArgs false
namespace Go.Proofs.Ytfkefelgjbfkjaa.Am
open Go

theorem ScopeWp.mono {P : Program} {body c : Code} {Q Q' : Exit → Act → World → Prop} {a : Act} {w : World} (hq : ∀ e a w, Q e a w → Q' e a w) (h : ScopeWp P body c Q a w) : ScopeWp P body c Q' a w :=
  fun b k cs => let ⟨e, a', w', q, r⟩ := h b k cs; ⟨e, a', w', hq _ _ _ q, r⟩

theorem stp_of_cls {P : Program} {C : Cx} {env : Env} {H H' : Hp} {o : Oper} {v : AV} (hc : cls o ≠ 2) (h : Stp P C env H o v H') : opV C env H o = some (v, H') := by
  rcases h with h | ⟨c, g, f, first, caps, ho, hg, _⟩
  · exact h
  · exact absurd (by simp [cls, ho, hg]) hc
theorem callB_still {C : Cx} {H H1 : Hp} {b : Builtin} {ts : List Nat} {xs : List AV} {v : AV} (hb : b = .len ∨ b = .max ∨ b = .min) (h : callB C H b ts xs = some (v, H1)) : H1 = H ∧ ∀ H2, callB C H2 b ts xs = some (v, H2) := by
  rcases hb with rfl | rfl | rfl
  · match ts, xs with
    | [], _ => simp only [callB] at h; cases h
    | _ :: _, [] => simp only [callB] at h; cases h
    | _ :: _, _ :: _ :: _ => simp only [callB] at h; cases h
    | t :: _, [x] =>
      simp only [callB] at h ⊢
      cases ht : C.ti t with
      | none => rw [ht] at h; cases h
      | some i =>
        rw [ht] at h
        simp only at h ⊢
        split at h <;> first | (cases h; done) | (cases h; exact ⟨rfl, fun H2 => by simp_all⟩)
  · match xs with
    | [] => simp only [callB] at h; cases h
    | [_] => simp only [callB] at h; cases h
    | _ :: _ :: _ :: _ => simp only [callB] at h; cases h
    | [x, y] =>
      cases x <;> cases y <;> simp only [callB] at h ⊢ <;> first | (cases h; done) | (cases h; exact ⟨rfl, fun H2 => rfl⟩)
  · match xs with
    | [] => simp only [callB] at h; cases h
    | [_] => simp only [callB] at h; cases h
    | _ :: _ :: _ :: _ => simp only [callB] at h; cases h
    | [x, y] =>
      cases x <;> cases y <;> simp only [callB] at h ⊢ <;> first | (cases h; done) | (cases h; exact ⟨rfl, fun H2 => rfl⟩)
theorem opV_still {C : Cx} {env : Env} {H H1 : Hp} {o : Oper} {v : AV} (hc : cls o = 0) (h : opV C env H o = some (v, H1)) : H1 = H ∧ ∀ H2, opV C env H2 o = some (v, H2) := by
  obtain ⟨dst, op, type, pos, after, guard⟩ := o
  cases op <;> simp only [cls] at hc
  all_goals (try (exact absurd hc (by decide)))
  case call c =>
    obtain ⟨callee, args, ts⟩ := c
    cases callee <;> simp only at hc <;> try (exact absurd hc (by decide))
    rename_i b
    cases b <;> simp only at hc <;> first | exact absurd hc (by decide) | exact callB_still (by simp) h
  case makeFunc fn first caps =>
    cases fn <;> simp only [opV] at h ⊢ <;> first | (cases h; done) | (cases h; exact ⟨rfl, fun H2 => rfl⟩)
  case slice t x lo hi mx =>
    cases mx with
    | some _ => simp only [opV] at h; cases h
    | none =>
      simp only [opV] at h ⊢
      obtain ⟨z, hz, he⟩ := map_some h
      cases he
      exact ⟨rfl, fun H2 => by rw [hz]; rfl⟩
  all_goals
    simp only [opV] at h ⊢
    first
      | (cases h; exact ⟨rfl, fun H2 => rfl⟩)
      | (obtain ⟨z, hz, he⟩ := map_some h; cases he; refine ⟨rfl, fun H2 => ?_⟩; rw [hz]; rfl)
      | ((repeat' (split at h)) <;> first | (cases h; done) | (cases h; refine ⟨rfl, fun H2 => ?_⟩; simp_all; done) | (obtain ⟨z, hz, he⟩ := map_some h; cases he; refine ⟨rfl, fun H2 => ?_⟩; simp_all; done))
theorem opV_reads {C : Cx} {env : Env} {H H1 : Hp} {o : Oper} {v : AV} (hc : cls o = 1) (h : opV C env H o = some (v, H1)) : H1 = H := by
  obtain ⟨dst, op, type, pos, after, guard⟩ := o
  cases op <;> simp only [cls] at hc <;> try (exact absurd hc (by decide))
  case call c =>
    obtain ⟨callee, args, ts⟩ := c
    cases callee <;> simp only at hc <;> try (exact absurd hc (by decide))
    rename_i b
    cases b <;> simp only at hc <;> exact absurd hc (by decide)
  case load t x =>
    simp only [opV] at h
    split at h
    · split at h
      · obtain ⟨z, hz, he⟩ := map_some h; cases he; rfl
      · cases h
    · split at h
      · obtain ⟨z, hz, he⟩ := map_some h; cases he; rfl
      · cases h
    · cases h
  case convert s d x =>
    simp only [opV, convV] at h
    (repeat' (split at h)) <;> first | (cases h; done) | (cases h; rfl)
theorem opV_congr {C : Cx} {env env' : Env} {H : Hp} {o : Oper} (h : ∀ x ∈ o.op.operands, opnd env x = opnd env' x) : opV C env H o = opV C env' H o := by
  obtain ⟨dst, op, type, pos, after, guard⟩ := o
  have pairs : ∀ ps : Array (Nat × Operand), (∀ x ∈ ps.map (·.2), opnd env x = opnd env' x) →
      (ps.toList.map fun p => (p.1, opnd env p.2)) = (ps.toList.map fun p => (p.1, opnd env' p.2)) := fun ps hp =>
    List.map_congr_left fun p hm => by rw [hp p.2 (Array.mem_map.2 ⟨p, by simpa using hm, rfl⟩)]
  cases op <;> simp only [Op.operands] at h <;> simp only [opV]
  case build t ps => rw [pairs ps fun x hx => h x (by simpa using hx)]
  case buildSlice t n ps => rw [pairs ps fun x hx => h x (by simpa using hx)]
  case makeFunc fn first captured =>
    have e1 : first.toList.map (opnd env) = first.toList.map (opnd env') := List.map_congr_left fun x hx => h x (by simp at hx; simp [hx])
    have e2 : captured.toList.map (opnd env) = captured.toList.map (opnd env') := List.map_congr_left fun x hx => h x (by simp at hx; simp [hx])
    cases fn <;> simp only [e1, e2]
  case call c =>
    obtain ⟨callee, args, ts⟩ := c
    cases callee <;> simp only
    rename_i b
    have e1 : args.toList.map (opnd env) = args.toList.map (opnd env') := List.map_congr_left fun x hx => h x (by simp at hx; simp [Call.operands, hx])
    rw [e1]
  case slice t x lo hi mx =>
    have e0 : opnd env x = opnd env' x := h x (by simp)
    have e1 : lo.map (opnd env) = lo.map (opnd env') := by cases lo with | none => rfl | some y => simp [h y (by simp)]
    have e2 : hi.map (opnd env) = hi.map (opnd env') := by cases hi with | none => rfl | some y => simp [h y (by simp)]
    cases mx <;> simp only [e0, e1, e2]
  case pick c x y =>
    rw [h c (by simp)]
    split
    · rename_i b _
      cases b with
      | true => simp only [if_true]; rw [h x (by simp)]
      | false => simp only [Bool.false_eq_true, if_false]; rw [h y (by simp)]
    · rfl
  all_goals (first | rfl | (simp_all; done))
theorem stp_congr {P : Program} {C : Cx} {env env' : Env} {H H' : Hp} {o : Oper} {v : AV} (h : ∀ x ∈ o.op.operands, opnd env x = opnd env' x) (hs : Stp P C env H o v H') : Stp P C env' H o v H' := by
  rcases hs with hs | ⟨c, g, f, first, caps, ho, hg, hgf, hcall⟩
  · exact .inl ((opV_congr h) ▸ hs)
  · refine .inr ⟨c, g, f, first, caps, ho, hg, ?_, ?_⟩
    · rw [← h g (by simp [ho, Op.operands, Call.operands, hg])]; exact hgf
    · have e : opnds env' c.args.toList = opnds env c.args.toList := by
        rw [opnds_eq, opnds_eq]
        exact List.map_congr_left fun x hx => (h x (by simp at hx; simp [ho, Op.operands, Call.operands, hx])).symm
      rw [e]; exact hcall
theorem agree_opnd {ops : Array Oper} {o : Oper} {env env' : Env} (h : ∀ t ∈ o.looksAt ops, look env t = look env' t) : ∀ x ∈ o.op.operands, opnd env x = opnd env' x := by
  intro x hx
  cases x with
  | tmp t => exact h t (List.mem_append_left _ (List.mem_filterMap.2 ⟨.tmp t, by simpa using hx, rfl⟩))
  | _ => rfl
theorem agree_wanted {ops : Array Oper} {o : Oper} {env env' : Env} (h : ∀ t ∈ o.looksAt ops, look env t = look env' t) : wantedV o ops.toList env = wantedV o ops.toList env' := by
  unfold wantedV
  cases hg : o.guard with
  | none => rfl
  | some gw =>
    obtain ⟨g, want⟩ := gw
    simp only
    rw [nth_eq]
    cases hp : ops.toList[g]? with
    | none => rfl
    | some p =>
      simp only
      cases hd : p.dst with
      | none => rfl
      | some d =>
        simp only
        rw [Array.getElem?_toList] at hp
        rw [h d (List.mem_append_right _ (by simp [hg, hp, hd]))]

/-- The region's operations in the order of the text: what is known of the slots then, and memory behind each act. -/
inductive OpsD (P : Program) (C : Cx) (all : List Oper) : List Oper → Env → Hp → Env → List Hp → Prop where
  | nil {env H} : OpsD P C all [] env H env []
  | skip {o l env H e hs} (hw : wantedV o all env = some false) (h : OpsD P C all l (putV env o.dst (.tuple [])) H e hs) : OpsD P C all (o :: l) env H e (bif Nat.beq (cls o) 2 then H :: hs else hs)
  | val {o l env H e hs v H'} (hw : wantedV o all env = some true) (hv : Stp P C env H o v H') (h : OpsD P C all l (putV env o.dst v) H' e hs) : OpsD P C all (o :: l) env H e (bif Nat.beq (cls o) 2 then H' :: hs else hs)
/-- No later operation gives this slot. -/
theorem opsD_look {P : Program} {C : Cx} {all : List Oper} {t : Nat} {l : List Oper} {env env' : Env} {H : Hp} {hs : List Hp} (h : OpsD P C all l env H env' hs) : (∀ o ∈ l, o.dst ≠ some t) → look env' t = look env t := by
  induction h with
  | nil => intro _; rfl
  | @skip o l env H e hs hw h ih =>
    intro hn
    rw [ih fun p hp => hn p (by simp [hp])]
    cases hd : o.dst with
    | none => rfl
    | some d =>
      simp only [putV]
      rw [look_put, if_neg]
      intro e
      subst e
      exact hn o (by simp) hd
  | @val o l env H e hs v H' hw hv h ih =>
    intro hn
    rw [ih fun p hp => hn p (by simp [hp])]
    cases hd : o.dst with
    | none => rfl
    | some d =>
      simp only [putV]
      rw [look_put, if_neg]
      intro e
      subst e
      exact hn o (by simp) hd
/-- What the run in the text's order tells of each operation. -/
def Told (P : Program) (C : Cx) (all : List Oper) (env0 env' : Env) (hs : List Hp) (l : List Oper) : Prop :=
  ∀ (i : Nat) (o : Oper), l[i]? = some o → ∃ b v Ei, wantedV o all Ei = some b ∧ (∀ t, (∀ (j : Nat) (p : Oper), l[j]? = some p → i ≤ j → p.dst ≠ some t) → look Ei t = look env' t) ∧ (∀ t, (∀ (j : Nat) (p : Oper), l[j]? = some p → j < i → p.dst ≠ some t) → look Ei t = look env0 t) ∧ (∀ d, o.dst = some d → look env' d = v) ∧
    (b = false → v = .tuple [] ∧ (cls o = 2 → ∀ H, hs[(l.take i).countP (fun p => Nat.beq (cls p) 2)]? = some H → hs[(l.take i).countP (fun p => Nat.beq (cls p) 2) + 1]? = some H)) ∧
    (b = true → ∃ Hb Ha, hs[(l.take i).countP (fun p => Nat.beq (cls p) 2)]? = some Hb ∧ Stp P C Ei Hb o v Ha ∧ (cls o = 2 → hs[(l.take i).countP (fun p => Nat.beq (cls p) 2) + 1]? = some Ha))
theorem stp_still {P : Program} {C : Cx} {env : Env} {H H1 : Hp} {o : Oper} {v : AV} (hc : cls o ≠ 2) (h : Stp P C env H o v H1) : H1 = H := by
  have hv := stp_of_cls hc h
  have : cls o = 0 ∨ cls o = 1 := by
    have hle : cls o ≤ 2 := by
      unfold cls
      repeat' split
      all_goals omega
    omega
  rcases this with h0 | h1
  · exact (opV_still h0 hv).1
  · exact opV_reads h1 hv
theorem opsD_told {P : Program} {C : Cx} {ops : Array Oper} : ∀ (l : List Oper) (env env' : Env) (H : Hp) (hs : List Hp), OpsD P C ops.toList l env H env' hs →
    (∀ (i j : Nat) (o p : Oper), l[i]? = some o → l[j]? = some p → i < j → ∀ d, o.dst = some d → p.dst ≠ some d) →
    Told P C ops.toList env env' (H :: hs) l ∧ hs.length = l.countP (fun p => Nat.beq (cls p) 2)
  | [], env, env', H, hs, h, _ => by
    cases h
    exact ⟨fun i o ho => by simp at ho, rfl⟩
  | o :: l, env, env', H, hs, h, hd => by
    have hd' : ∀ (i j : Nat) (p q : Oper), l[i]? = some p → l[j]? = some q → i < j → ∀ d, p.dst = some d → q.dst ≠ some d := fun i j p q hp hq hij => hd (i + 1) (j + 1) p q (by simpa using hp) (by simpa using hq) (by omega)
    have key : ∀ (v : AV) (H1 : Hp) (hs1 : List Hp), OpsD P C ops.toList l (putV env o.dst v) H1 env' hs1 → (∀ d, o.dst = some d → look env' d = v) := by
      intro v H1 hs1 hr d hdd
      rw [opsD_look hr]
      · rw [hdd]; simp only [putV]; rw [look_put, if_pos rfl]
      · intro p hp
        obtain ⟨j, hj⟩ := List.mem_iff_getElem?.1 hp
        exact hd 0 (j + 1) o p rfl (by simpa using hj) (by omega) d hdd
    have build : ∀ (b : Bool) (v : AV) (H1 : Hp) (hs1 : List Hp), wantedV o ops.toList env = some b → (∀ d, o.dst = some d → look env' d = v) → (b = false → v = .tuple [] ∧ H1 = H) → (b = true → Stp P C env H o v H1) → (cls o ≠ 2 → H1 = H) → hs = (bif Nat.beq (cls o) 2 then H1 :: hs1 else hs1) →
        Told P C ops.toList (putV env o.dst v) env' (H1 :: hs1) l ∧ hs1.length = l.countP (fun p => Nat.beq (cls p) 2) → Told P C ops.toList env env' (H :: hs) (o :: l) ∧ hs.length = (o :: l).countP (fun p => Nat.beq (cls p) 2) := by
      intro b v H1 hs1 hw hv hf ht hst hhs hrec
      obtain ⟨hrec, hlen⟩ := hrec
      have hc2 : Nat.beq (cls o) 2 = true ↔ cls o = 2 := ⟨fun h => Nat.eq_of_beq_eq_true h, fun h => by rw [h]; rfl⟩
      refine ⟨?_, ?_⟩
      · intro i p hp
        cases i with
        | zero =>
          simp at hp
          subst hp
          refine ⟨b, v, env, hw, ?_, fun _ _ => rfl, hv, ?_, ?_⟩
          · intro t ht
            exact (opsD_look h fun q hq => by
              obtain ⟨j, hj⟩ := List.mem_iff_getElem?.1 hq
              exact ht j q hj (Nat.zero_le _)).symm
          · intro hb
            obtain ⟨h1, h2⟩ := hf hb
            refine ⟨h1, ?_⟩
            intro hc H2 hH2
            rw [hc2.2 hc] at hhs
            subst h2
            simp at hH2
            subst hH2
            rw [hhs]; simp
          · intro hb
            refine ⟨H, H1, by simp, ht hb, ?_⟩
            intro hc
            rw [hc2.2 hc] at hhs
            rw [hhs]; simp
        | succ i =>
          have hp' : l[i]? = some p := by simpa using hp
          obtain ⟨b', v', Ei, w1, wa, wb, w2, w3, w4⟩ := hrec i p hp'
          refine ⟨b', v', Ei, w1, ?_, ?_, w2, ?_⟩
          · intro t ht
            exact wa t fun j q hq hij => ht (j + 1) q (by simpa using hq) (by omega)
          · intro t ht
            rw [wb t fun j q hq hij => ht (j + 1) q (by simpa using hq) (by omega)]
            have h0 := ht 0 o rfl (by omega)
            cases hdd : o.dst with
            | none => rfl
            | some d =>
              simp only [putV]
              rw [look_put, if_neg]
              intro e
              subst e
              exact h0 hdd
          · rw [List.take_succ_cons, List.countP_cons]
            by_cases hc : cls o = 2
            · rw [hc2.2 hc] at hhs ⊢
              simp only [cond_true, if_true] at hhs ⊢
              rw [hhs]
              simp only [List.getElem?_cons_succ]
              exact ⟨w3, w4⟩
            · have hcf : Nat.beq (cls o) 2 = false := by
                cases hq : Nat.beq (cls o) 2 with
                | false => rfl
                | true => exact absurd (hc2.1 hq) hc
              rw [hcf] at hhs ⊢
              simp only [cond_false, Bool.false_eq_true, if_false, Nat.add_zero] at hhs ⊢
              rw [hhs, ← hst hc]
              exact ⟨w3, w4⟩
      · rw [hhs, List.countP_cons]
        cases hq : Nat.beq (cls o) 2 with
        | true => simp [hlen]
        | false => simp [hlen]
    cases h with
    | @skip _ _ _ _ _ hs' hw hr => exact build false (.tuple []) H hs' hw (key _ _ _ hr) (fun _ => ⟨rfl, rfl⟩) (fun hb => by cases hb) (fun _ => rfl) rfl (opsD_told l _ _ _ _ hr hd')
    | @val _ _ _ _ _ hs' v H1 hw hs1 hr => exact build true v H1 hs' hw (key _ _ _ hr) (fun hb => by cases hb) (fun _ => hs1) (fun hc => stp_still hc hs1) rfl (opsD_told l _ _ _ _ hr hd')

def maskAt (pl : List (Nat × Nat × Nat)) (i : Nat) : Nat := match pl[i]? with | some (k, _, _) => k | none => 0
def effAt (ops : Array Oper) (k : Nat) : Bool := match ops.toList[k]? with | some p => Nat.beq (cls p) 2 | none => false
def maskOf (pl : List (Nat × Nat × Nat)) (es : List Edge) : Nat := es.foldl (fun acc e => bif Region.binds .any e then acc ||| (2 ^ e.on ||| maskAt pl e.on) else acc) 0
/-- Is this the plan of the region: what must be run ahead of each operation; slots are given once; acts stand in one order. -/
def planOk (ops : Array Oper) (pl : List (Nat × Nat × Nat)) : Bool :=
  (List.range ops.size).all fun i => match ops.toList[i]?, pl[i]? with
    | some o, some (mask, lo, hi) =>
      (o.after.toList.all fun e => !Region.binds .any e || Nat.blt e.on i) && Nat.beq mask (maskOf pl o.after.toList) &&
      ((List.range ops.size).all fun k => match ops.toList[k]? with
        | some p => (Nat.beq k i || (match p.dst with | some d => o.dst != some d | none => true)) &&
            (match p.dst with | some d => !(o.looksAt ops).contains d || (Nat.blt k i && mask.testBit k) || (Nat.blt i k && (maskAt pl k).testBit i && !Nat.beq (cls o) 1) | none => true) &&
            (!(Nat.beq (cls o) 2 && Nat.beq (cls p) 2 && Nat.blt k i) || mask.testBit k)
        | none => false) &&
      (!Nat.beq (cls o) 1 || (Nat.ble lo ((List.range ops.size).countP fun k => effAt ops k && mask.testBit k) && Nat.ble ((List.range ops.size).countP (effAt ops)) (hi + (List.range ops.size).countP fun k => effAt ops k && (maskAt pl k).testBit i)))
    | _, _ => false
structure PlanOk (ops : Array Oper) (pl : List (Nat × Nat × Nat)) : Prop where
  back : ∀ i o, ops[i]? = some o → ∀ e ∈ o.after, Region.binds .any e = true → e.on < i
  mask : ∀ i o, ops[i]? = some o → ∀ k, (maskAt pl i).testBit k = true → ∃ e ∈ o.after, Region.binds .any e = true ∧ (k = e.on ∨ (maskAt pl e.on).testBit k = true)
  once : ∀ (i k : Nat) (o p : Oper), ops[i]? = some o → ops[k]? = some p → k ≠ i → ∀ d, p.dst = some d → o.dst ≠ some d
  uses : ∀ i k o p, ops[i]? = some o → ops[k]? = some p → ∀ d ∈ o.looksAt ops, p.dst = some d → (k < i ∧ (maskAt pl i).testBit k = true) ∨ (i < k ∧ (maskAt pl k).testBit i = true ∧ cls o ≠ 1)
  acts : ∀ i k o p, ops[i]? = some o → ops[k]? = some p → cls o = 2 → cls p = 2 → k < i → (maskAt pl i).testBit k = true
  reads : ∀ i o mask lo hi, ops[i]? = some o → pl[i]? = some (mask, lo, hi) → cls o = 1 → lo ≤ ((List.range ops.size).countP fun k => effAt ops k && (maskAt pl i).testBit k) ∧ (List.range ops.size).countP (effAt ops) ≤ (hi + (List.range ops.size).countP fun k => effAt ops k && (maskAt pl k).testBit i)
  len : ∀ (i : Nat) (o : Oper), ops[i]? = some o → ∃ q : Nat × Nat × Nat, pl[i]? = some q
theorem maskOf_bit (pl : List (Nat × Nat × Nat)) (k : Nat) : ∀ (es : List Edge) (acc : Nat), (es.foldl (fun acc e => bif Region.binds .any e then acc ||| (2 ^ e.on ||| maskAt pl e.on) else acc) acc).testBit k = true → acc.testBit k = true ∨ ∃ e ∈ es, Region.binds .any e = true ∧ (k = e.on ∨ (maskAt pl e.on).testBit k = true)
  | [], acc, h => .inl h
  | e :: es, acc, h => by
    rw [List.foldl_cons] at h
    rcases maskOf_bit pl k es _ h with h1 | ⟨e', he, hb⟩
    · cases hb : Region.binds .any e with
      | false => rw [hb] at h1; exact .inl h1
      | true =>
        rw [hb] at h1
        simp only [cond_true, Nat.testBit_or, Bool.or_eq_true] at h1
        rcases h1 with h1 | h1 | h1
        · exact .inl h1
        · refine .inr ⟨e, by simp, hb, .inl ?_⟩
          rw [Nat.testBit_two_pow] at h1
          simpa using (of_decide_eq_true h1).symm
        · exact .inr ⟨e, by simp, hb, .inr h1⟩
    · exact .inr ⟨e', by simp [he], hb⟩
theorem planOk_spec {ops : Array Oper} {pl : List (Nat × Nat × Nat)} (h : planOk ops pl = true) : PlanOk ops pl := by
  unfold planOk at h
  have hall := h
  rw [List.all_eq_true] at hall
  have lt : ∀ {i : Nat} {o : Oper}, ops[i]? = some o → i < ops.size := fun h => (Array.getElem?_eq_some_iff.1 h).1
  have key : ∀ i o, ops[i]? = some o → ∃ mask lo hi, pl[i]? = some (mask, lo, hi) ∧ maskAt pl i = mask ∧
      (∀ e ∈ o.after, Region.binds .any e = true → e.on < i) ∧ mask = maskOf pl o.after.toList ∧
      (∀ k p, ops[k]? = some p → (k = i ∨ ∀ d, p.dst = some d → o.dst ≠ some d) ∧ (∀ d, p.dst = some d → d ∈ o.looksAt ops → (k < i ∧ mask.testBit k = true) ∨ (i < k ∧ (maskAt pl k).testBit i = true ∧ cls o ≠ 1)) ∧ (cls o = 2 → cls p = 2 → k < i → mask.testBit k = true)) ∧
      (cls o = 1 → lo ≤ ((List.range ops.size).countP fun k => effAt ops k && mask.testBit k) ∧ (List.range ops.size).countP (effAt ops) ≤ (hi + (List.range ops.size).countP fun k => effAt ops k && (maskAt pl k).testBit i)) := by
    intro i o ho
    have h1 := hall i (List.mem_range.2 (lt ho))
    rw [Array.getElem?_toList, ho] at h1
    split at h1
    · rename_i o' mask lo hi e1 e2
      cases e1
      simp only [Bool.and_eq_true, List.all_eq_true] at h1
      obtain ⟨⟨⟨q1, q2⟩, q3⟩, q4⟩ := h1
      refine ⟨mask, lo, hi, e2, by simp [maskAt, e2], ?_, Nat.eq_of_beq_eq_true q2, ?_, ?_⟩
      · intro e he hb
        have := q1 e (by simpa using he)
        rw [hb] at this
        simpa using this
      · intro k p hp
        have := q3 k (List.mem_range.2 (lt hp))
        rw [Array.getElem?_toList, hp] at this
        simp only [Bool.and_eq_true] at this
        obtain ⟨⟨r1, r2⟩, r3⟩ := this
        refine ⟨?_, ?_, ?_⟩
        · simp only [Bool.or_eq_true] at r1
          rcases r1 with r1 | r1
          · exact .inl (Nat.eq_of_beq_eq_true r1)
          · refine .inr fun d hd => ?_
            rw [hd] at r1
            simpa using r1
        · intro d hd hu
          rw [hd] at r2
          simp only [Bool.or_eq_true, Bool.not_eq_true', Bool.and_eq_true] at r2
          rcases r2 with (r2 | r2) | r2
          · exact absurd (by simpa using hu) (by simpa using r2)
          · exact .inl ⟨by simpa using r2.1, r2.2⟩
          · refine .inr ⟨by simpa using r2.1.1, r2.1.2, fun e => ?_⟩
            rw [e] at r2
            exact absurd r2.2 (by decide)
        · intro c1 c2 hk
          simp only [c1, c2, Bool.or_eq_true, Bool.not_eq_true'] at r3
          rcases r3 with r3 | r3
          · have : Nat.blt k i = true := by simpa using hk
            rw [this] at r3
            exact absurd r3 (by decide)
          · exact r3
      · intro c1
        simp only [c1, Bool.or_eq_true, Bool.not_eq_true', Bool.and_eq_true] at q4
        rcases q4 with q4 | q4
        · exact absurd q4 (by decide)
        · exact ⟨Nat.le_of_ble_eq_true q4.1, Nat.le_of_ble_eq_true q4.2⟩
    · cases h1
  refine ⟨?_, ?_, ?_, ?_, ?_, ?_, ?_⟩
  · intro i o ho
    obtain ⟨mask, lo, hi, _, _, h1, _⟩ := key i o ho
    exact h1
  · intro i o ho k hk
    obtain ⟨mask, lo, hi, _, hm, _, h2, _⟩ := key i o ho
    rw [hm, h2] at hk
    rcases maskOf_bit pl k _ 0 hk with h3 | ⟨e, he, hb, hq⟩
    · simp at h3
    · exact ⟨e, by simpa using he, hb, hq⟩
  · intro i k o p ho hp hne d hd
    obtain ⟨mask, lo, hi, _, hm, _, _, h3, _⟩ := key i o ho
    exact (h3 k p hp).1.resolve_left hne d hd
  · intro i k o p ho hp d hu hd
    obtain ⟨mask, lo, hi, _, hm, _, _, h3, _⟩ := key i o ho
    rw [hm]
    exact (h3 k p hp).2.1 d hd hu
  · intro i k o p ho hp c1 c2 hk
    obtain ⟨mask, lo, hi, _, hm, _, _, h3, _⟩ := key i o ho
    rw [hm]
    exact (h3 k p hp).2.2 c1 c2 hk
  · intro i o mask lo hi ho hpl c1
    obtain ⟨mask', lo', hi', hpl', hm, _, _, _, h4⟩ := key i o ho
    rw [hpl] at hpl'
    cases hpl'
    rw [hm]
    exact h4 c1
  · intro i o ho
    obtain ⟨mask, lo, hi, hpl, _⟩ := key i o ho
    exact ⟨_, hpl⟩
/-- All that an operation waits for has been run. -/
theorem closed_mask {ops : Array Oper} {pl : List (Nat × Nat × Nat)} (hp : PlanOk ops pl) {S : Nat → Prop} (hc : ∀ i o, ops[i]? = some o → S i → ∀ e ∈ o.after, Region.binds .any e = true → S e.on) (hin : ∀ i, S i → i < ops.size) :
    ∀ (i : Nat) (o : Oper), ops[i]? = some o → (∀ e ∈ o.after, Region.binds .any e = true → S e.on) → ∀ k, (maskAt pl i).testBit k = true → S k := by
  intro i
  induction i using Nat.strongRecOn with
  | _ i ih =>
    intro o ho hd k hk
    obtain ⟨e, he, hb, hq⟩ := hp.mask i o ho k hk
    rcases hq with rfl | hq
    · exact hd e he hb
    · have hS := hd e he hb
      have hlt := hp.back i o ho e he hb
      have hlt' := hin _ hS
      have ho' : ops[e.on]? = some ops[e.on] := Array.getElem?_eq_getElem hlt'
      exact ih e.on hlt _ ho' (hc _ _ ho' hS) k hq

theorem countP_upd (i : Nat) (f g : Nat → Bool) (hf : f i = false) (hg : g i = true) (hne : ∀ k, k ≠ i → f k = g k) : ∀ n, i < n → (List.range n).countP g = (List.range n).countP f + 1
  | 0, h => by omega
  | n + 1, h => by
    rw [List.range_succ, List.countP_append, List.countP_append]
    by_cases e : i = n
    · subst e
      have : (List.range i).countP g = (List.range i).countP f := List.countP_congr fun k hk => by
        have : k ≠ i := by have := List.mem_range.1 hk; omega
        rw [hne k this]
      rw [this]
      simp [hf, hg]
    · have ih := countP_upd i f g hf hg hne n (by omega)
      have hn := hne n (fun h => e h.symm)
      rw [ih]
      simp only [List.countP_cons, List.countP_nil, hn]
      omega
theorem countP_below (f : Nat → Bool) (i : Nat) : ∀ n, i ≤ n → (List.range n).countP (fun k => f k && decide (k < i)) = (List.range i).countP f
  | 0, h => by
    have : i = 0 := by omega
    subst this; rfl
  | n + 1, h => by
    by_cases e : i = n + 1
    · subst e
      exact List.countP_congr fun k hk => by have := List.mem_range.1 hk; simp [this]
    · rw [List.range_succ, List.countP_append, countP_below f i n (by omega)]
      have : ¬ n < i := by omega
      simp [this]
theorem take_count (ops : Array Oper) : ∀ i, i ≤ ops.size → (ops.toList.take i).countP (fun p => Nat.beq (cls p) 2) = (List.range i).countP (effAt ops)
  | 0, _ => rfl
  | i + 1, h => by
    rw [List.take_add_one, List.countP_append, take_count ops i (by omega), List.range_succ, List.countP_append]
    congr 1
    have hi : i < ops.size := by omega
    have : ops.toList[i]? = some ops[i] := by rw [Array.getElem?_toList]; exact Array.getElem?_eq_getElem hi
    simp [effAt, hi]
theorem countP_apart {p q r : Nat → Bool} (hpr : ∀ k, p k = true → r k = true) (hqr : ∀ k, q k = true → r k = true) (hpq : ∀ k, p k = true → q k = true → False) : ∀ l : List Nat, l.countP p + l.countP q ≤ l.countP r
  | [] => by simp
  | k :: l => by
    have ih := countP_apart hpr hqr hpq l
    simp only [List.countP_cons]
    cases hp : p k <;> cases hq : q k <;> cases hr : r k <;> simp only [if_true, Bool.false_eq_true, if_false] <;> first | omega | exact absurd (hpr k hp) (by rw [hr]; decide) | exact absurd (hqr k hq) (by rw [hr]; decide) | exact (hpq k hp hq).elim
/-- Memory is read alike wherever an order may read it. -/
def AlikeP (C : Cx) (ops : Array Oper) (env : Env) (hs : List Hp) (pl : List (Nat × Nat × Nat)) : Prop :=
  ∀ (i : Nat) (o : Oper) (mk lo hi : Nat), ops.toList[i]? = some o → pl[i]? = some (mk, lo, hi) → cls o = 1 → wantedV o ops.toList env = some true → ∀ j, lo ≤ j → j ≤ hi → ∀ H, hs[j]? = some H → ∃ v, opV C env H o = some (v, H) ∧ ∀ d, o.dst = some d → look env d = v
theorem lastH_get : ∀ (hs : List Hp) (H : Hp), (H :: hs)[hs.length]? = some (lastH H hs)
  | [], H => rfl
  | h :: l, H => by
    have := lastH_get l h
    simpa [lastH] using this

def cnt (ops : Array Oper) (listed : Array Bool) : Nat := (List.range ops.size).countP fun k => effAt ops k && listed.getD k false
/-- Some of the region's operations have been run. -/
structure Mid (ops : Array Oper) (env0 env' : Env) (hs : List Hp) (n base : Nat) (m0 : Mp) (w0 : World) (listed : Array Bool) (a : Act) (w : World) (E : Env) (m : Mp) (H : Hp) : Prop where
  size : listed.size = ops.size
  closed : ∀ (i : Nat) (o : Oper), ops[i]? = some o → listed.getD i false = true → ∀ e ∈ o.after, Region.binds .any e = true → listed.getD e.on false = true
  fr : FR m E a.tmps
  tn : n ≤ a.tmps.size
  df : a.defers = []
  other : ∀ t, (∀ (k : Nat) (p : Oper), ops[k]? = some p → listed.getD k false = true → p.dst ≠ some t) → look E t = look env0 t
  given : ∀ (k : Nat) (p : Oper) (d : Nat), ops[k]? = some p → listed.getD k false = true → p.dst = some d → look E d = look env' d
  at_ : hs[cnt ops listed]? = some H
  rw_ : RW m H w base
  st : St m0 w0 base m w
theorem st_trans2 {m m' m'' : Mp} {w w' w'' : World} {base : Nat} (hb : base ≤ w.heap.size) (h : St m w base m' w') (k : St m' w' base m'' w'') : St m w base m'' w'' := h.trans hb k
theorem getD_set_eq {listed : Array Bool} {i : Nat} (h : i < listed.size) (d : Bool) : (listed.setIfInBounds i true).getD i d = true := by simp [h]
theorem Mid.next {ops : Array Oper} {pl : List (Nat × Nat × Nat)} (hp : PlanOk ops pl) {env0 env' : Env} {hs : List Hp} {n base : Nat} {m0 m m' : Mp} {w0 w w' : World} {listed : Array Bool} {a : Act} {E : Env} {H H' : Hp} (hb : base ≤ w0.heap.size) (md : Mid ops env0 env' hs n base m0 w0 listed a w E m H)
    {i : Nat} {o : Oper} {v : AV} {c : Value} (ho : ops[i]? = some o) (hun : listed.getD i false = false) (hdep : ∀ e ∈ o.after, Region.binds .any e = true → listed.getD e.on false = true) (hds : dstOk n o = true)
    (hv : ∀ d, o.dst = some d → look env' d = v) (rw1 : RW m' H' w' base) (st1 : St m w base m' w') (hc : VR m' v c) (hat : hs[cnt ops (listed.setIfInBounds i true)]? = some H') : Mid ops env0 env' hs n base m0 w0 (listed.setIfInBounds i true) (a.put o.dst c) w' (putV E o.dst v) m' H' := by
  have hi : i < ops.size := (Array.getElem?_eq_some_iff.1 ho).1
  have hi' : i < listed.size := by rw [md.size]; exact hi
  obtain ⟨f1, f2, f3⟩ := act_put_frame (md.fr.mono st1.sub) md.tn md.df o hds v c hc
  have hlook : ∀ t, o.dst ≠ some t → look (putV E o.dst v) t = look E t := by
    intro t ht
    cases hd : o.dst with
    | none => rfl
    | some d =>
      simp only [putV]
      rw [look_put, if_neg]
      intro e
      subst e
      exact ht hd
  refine ⟨by simp [md.size], ?_, f1, f2, f3, ?_, ?_, hat, rw1, st_trans2 hb md.st st1⟩
  · intro k p hk hl e he hbd
    by_cases hki : k = i
    · subst hki
      rw [ho] at hk
      cases hk
      exact getD_set_true (hdep e he hbd)
    · rw [getD_set_ne false (Ne.symm hki)] at hl
      exact getD_set_true (md.closed k p hk hl e he hbd)
  · intro t ht
    rw [hlook t (ht i o ho (getD_set_eq hi' false))]
    refine md.other t fun k p hk hl => ht k p hk ?_
    exact getD_set_true hl
  · intro k p d hk hl hd
    by_cases hki : k = i
    · subst hki
      rw [ho] at hk
      cases hk
      rw [hd]
      simp only [putV]
      rw [look_put, if_pos rfl]
      exact (hv d hd).symm
    · rw [getD_set_ne false (Ne.symm hki)] at hl
      rw [hlook d (hp.once i k o p ho hk hki d hd)]
      exact md.given k p d hk hl hd
theorem Mid.step {P : Program} {C : Cx} (hti : ∀ t i, C.ti t = some i → mkTi P t = some i) {ops : Array Oper} {pl : List (Nat × Nat × Nat)} (hp : PlanOk ops pl) {env0 env' : Env} {hs : List Hp} {n base : Nat} {m0 m : Mp} {w0 w : World} {listed : Array Bool} {a : Act} {E : Env} {H : Hp}
    (hb : base ≤ w0.heap.size) (hds : ops.toList.all (dstOk n) = true) (told : Told P C ops.toList env0 env' hs ops.toList) (alike : AlikeP C ops env' hs pl) (md : Mid ops env0 env' hs n base m0 w0 listed a w E m H) {i : Nat} (hr : i ∈ Region.ready .any ops listed) {Q : Exit → Act → World → Prop} :
    wpOp P ops Q i (fun a' w' => ∃ E' m' H', Mid ops env0 env' hs n base m0 w0 (listed.setIfInBounds i true) a' w' E' m' H') a w := by
  obtain ⟨hun, o, ho, hdep⟩ := mem_ready.1 hr
  have hi : i < ops.size := (Array.getElem?_eq_some_iff.1 ho).1
  have hi' : i < listed.size := by rw [md.size]; exact hi
  have hun' : listed.getD i false = false := by simpa [hi'] using hun
  have hoL : ops.toList[i]? = some o := by rw [Array.getElem?_toList]; exact ho
  have hdo : dstOk n o = true := List.all_eq_true.1 hds o (List.mem_of_getElem? hoL)
  have hin : ∀ k, listed.getD k false = true → k < ops.size := by
    intro k hk
    rcases Nat.lt_or_ge k ops.size with h | h
    · exact h
    · have h1 : listed[k]? = none := Array.getElem?_eq_none (by rw [md.size]; exact h)
      have : listed.getD k false = false := by simp [h1]
      rw [this] at hk; cases hk
  have hmask := closed_mask hp (S := fun k => listed.getD k false = true) md.closed hin
  have hbit := hmask i o ho hdep
  obtain ⟨b, v, Ei, t1, ta, tb, t2, t3, t4⟩ := told i o hoL
  have agree : ∀ t ∈ o.looksAt ops, look Ei t = look E t := by
    intro t ht
    by_cases hex : ∃ (k : Nat) (p : Oper), ops[k]? = some p ∧ p.dst = some t
    · obtain ⟨k, p, hk, hd⟩ := hex
      rcases hp.uses i k o p ho hk t ht hd with ⟨hki, hbk⟩ | ⟨hik, hbk, _⟩
      · rw [ta t, md.given k p t hk (hbit k hbk) hd]
        intro j q hq hij hqd
        rw [Array.getElem?_toList] at hq
        exact hp.once k j p q hk hq (by omega) t hqd hd
      · have hkl : listed.getD k false ≠ true := by
          intro hl
          have := hmask k p hk (md.closed k p hk hl) i hbk
          rw [hun'] at this; cases this
        rw [tb t, md.other t]
        · intro j q hq hl hqd
          by_cases hjk : j = k
          · subst hjk; exact hkl hl
          · exact hp.once k j p q hk hq hjk t hqd hd
        · intro j q hq hji hqd
          rw [Array.getElem?_toList] at hq
          exact hp.once k j p q hk hq (by omega) t hqd hd
    · rw [tb t, md.other t]
      · intro j q hq _ hqd; exact hex ⟨j, q, hq, hqd⟩
      · intro j q hq _ hqd
        rw [Array.getElem?_toList] at hq
        exact hex ⟨j, q, hq, hqd⟩
  have agree1 : cls o = 1 → ∀ t ∈ o.looksAt ops, look env' t = look E t := by
    intro hc t ht
    by_cases hex : ∃ (k : Nat) (p : Oper), ops[k]? = some p ∧ p.dst = some t
    · obtain ⟨k, p, hk, hd⟩ := hex
      rcases hp.uses i k o p ho hk t ht hd with ⟨hki, hbk⟩ | ⟨_, _, hne⟩
      · exact (md.given k p t hk (hbit k hbk) hd).symm
      · exact absurd hc hne
    · rw [← agree t ht]
      refine (ta t fun j q hq _ hqd => ?_).symm
      rw [Array.getElem?_toList] at hq
      exact hex ⟨j, q, hq, hqd⟩
  have hwE : wantedV o ops.toList E = some b := by rw [← agree_wanted agree]; exact t1
  have hw := wanted_ok hwE md.fr
  have heff : effAt ops i = Nat.beq (cls o) 2 := by simp [effAt, hi, ho]
                                                    have := (Array.getElem?_eq_some_iff.1 ho).2
                                                    rw [this]
  have hset : ∀ k, k ≠ i → (listed.setIfInBounds i true).getD k false = listed.getD k false := fun k hk => getD_set_ne false (Ne.symm hk)
  have hsame : cls o ≠ 2 → cnt ops (listed.setIfInBounds i true) = cnt ops listed := by
    intro hc
    refine List.countP_congr fun k _ => ?_
    by_cases hki : k = i
    · subst hki
      have : Nat.beq (cls o) 2 = false := by
        cases hq : Nat.beq (cls o) 2 with
        | false => rfl
        | true => exact absurd (Nat.eq_of_beq_eq_true hq) hc
      rw [heff, this]; simp
    · rw [hset k hki]
  have hone : cls o = 2 → cnt ops (listed.setIfInBounds i true) = cnt ops listed + 1 := by
    intro hc
    refine countP_upd i _ _ ?_ ?_ ?_ ops.size hi
    · rw [hun']; simp
    · rw [heff, hc, getD_set_eq hi']; rfl
    · intro k hk
      rw [hset k hk]
  have hcount : cls o = 2 → cnt ops listed = (ops.toList.take i).countP (fun p => Nat.beq (cls p) 2) := by
    intro hc
    rw [take_count ops i (Nat.le_of_lt hi), ← countP_below (effAt ops) i ops.size (Nat.le_of_lt hi)]
    refine List.countP_congr fun k hk => ?_
    have hk := List.mem_range.1 hk
    have hkp : ops[k]? = some ops[k] := Array.getElem?_eq_getElem hk
    cases he : effAt ops k with
    | false => simp
    | true =>
      have hck : cls ops[k] = 2 := by
        have : effAt ops k = Nat.beq (cls ops[k]) 2 := by simp [effAt, hk]
        rw [this] at he
        exact Nat.eq_of_beq_eq_true he
      simp only [Bool.true_and, decide_eq_true_eq]
      constructor
      · intro hl
        rcases Nat.lt_trichotomy k i with h | h | h
        · exact h
        · subst h; rw [hun'] at hl; cases hl
        · have h1 := hp.acts k i _ _ hkp ho hck hc h
          have h2 := hmask k _ hkp (md.closed k _ hkp hl) i h1
          rw [hun'] at h2; cases h2
      · intro hlt
        exact hbit k (hp.acts i k _ _ ho hkp hc hck hlt)
  unfold wpOp
  simp only [ho]
  rw [hw]
  cases b with
  | false =>
    simp only [Bool.false_eq_true, if_false]
    obtain ⟨rfl, h3⟩ := t3 rfl
    refine ⟨_, m, H, md.next hp hb ho hun' hdep hdo t2 md.rw_ (St.refl _ _ _) (VR_undef _) ?_⟩
    by_cases hc : cls o = 2
    · rw [hone hc, hcount hc]
      exact h3 hc H (by rw [← hcount hc]; exact md.at_)
    · rw [hsame hc]; exact md.at_
  | true =>
    simp only [if_true]
    refine .inl ?_
    obtain ⟨Hb, Ha, q1, q2, q3⟩ := t4 rfl
    by_cases hc2 : cls o = 2
    · have hH : Hb = H := by
        have := md.at_
        rw [hcount hc2, q1] at this
        exact Option.some.inj this
      subst hH
      have q2 := stp_congr (agree_opnd agree) q2
      refine stp_ok hti q2 md.fr md.rw_ _ Q fun m' w' c r1 r2 r3 => ?_
      exact ⟨_, m', Ha, md.next hp hb ho hun' hdep hdo t2 r1 r2 r3 (by rw [hone hc2, hcount hc2]; exact q3 hc2)⟩
    · have quiet : ∀ v', opV C E H o = some (v', H) → (∀ d, o.dst = some d → look env' d = v') → o.wp P a w (fun a' w' => ∃ E' m' H', Mid ops env0 env' hs n base m0 w0 (listed.setIfInBounds i true) a' w' E' m' H') Q := by
        intro v' hv' hd'
        refine stepOk_opV hti hv' md.fr md.rw_ _ Q fun m' w' c r1 r2 r3 => ?_
        exact ⟨_, m', H, md.next hp hb ho hun' hdep hdo hd' r1 r2 r3 (by rw [hsame hc2]; exact md.at_)⟩
      have hcl : cls o = 0 ∨ cls o = 1 := by
        have hle : cls o ≤ 2 := by
          unfold cls
          repeat' split
          all_goals omega
        omega
      rcases hcl with hc0 | hc1
      · have q2 := stp_of_cls hc2 (stp_congr (agree_opnd agree) q2)
        exact quiet v ((opV_still hc0 q2).2 H) t2
      · obtain ⟨⟨mk, lo, hi⟩, hpl⟩ := hp.len i o ho
        obtain ⟨hlo, hhi⟩ := hp.reads i o mk lo hi ho hpl hc1
        have g1 : lo ≤ cnt ops listed := by
          refine Nat.le_trans hlo (List.countP_mono_left fun k hk => ?_)
          simp only [Bool.and_eq_true]
          rintro ⟨e1, e2⟩
          exact ⟨e1, hbit k e2⟩
        have g2 : cnt ops listed ≤ hi := by
          have := countP_apart (p := fun k => effAt ops k && listed.getD k false) (q := fun k => effAt ops k && (maskAt pl k).testBit i) (r := effAt ops) (fun k h => by simp at h; exact h.1) (fun k h => by simp at h; exact h.1) (fun k h1 h2 => by
            simp only [Bool.and_eq_true] at h1 h2
            have hk := hin k h1.2
            have hkp : ops[k]? = some ops[k] := Array.getElem?_eq_getElem hk
            have h3 := hmask k _ hkp (md.closed k _ hkp h1.2) i h2.2
            rw [hun'] at h3; cases h3) (List.range ops.size)
          unfold cnt
          omega
        obtain ⟨v', hv', hd'⟩ := alike i o mk lo hi hoL hpl hc1 (by rw [agree_wanted (agree1 hc1)]; exact hwE) _ g1 g2 H md.at_
        rw [opV_congr (agree_opnd (agree1 hc1))] at hv'
        exact quiet v' hv' hd'
theorem Mid.run {P : Program} {C : Cx} (hti : ∀ t i, C.ti t = some i → mkTi P t = some i) {ops : Array Oper} {pl : List (Nat × Nat × Nat)} (hp : PlanOk ops pl) {env0 env' : Env} {hs : List Hp} {n base : Nat} {m0 : Mp} {w0 : World} {Hl : Hp}
    (hb : base ≤ w0.heap.size) (hds : ops.toList.all (dstOk n) = true) (told : Told P C ops.toList env0 env' hs ops.toList) (alike : AlikeP C ops env' hs pl) (hsame : ∀ t, (∀ (k : Nat) (p : Oper), ops[k]? = some p → p.dst ≠ some t) → look env' t = look env0 t) (hlast : hs[(List.range ops.size).countP (effAt ops)]? = some Hl) : ∀ (fuel : Nat) (listed : Array Bool) (a : Act) (w : World) (E : Env) (m : Mp) (H : Hp),
    Mid ops env0 env' hs n base m0 w0 listed a w E m H → (List.range ops.size).countP (fun k => !listed.getD k false) = fuel → wpAny P .any ops (Post m0 w0 base n env' Hl) fuel listed a w
  | 0, listed, a, w, E, m, H, md, hf => by
    have hall : ∀ k, k < ops.size → listed.getD k false = true := by
      intro k hk
      have := List.countP_eq_zero.1 hf k (List.mem_range.2 hk)
      simpa using this
    have hready : Region.ready .any ops listed = [] := by
      rw [List.eq_nil_iff_forall_not_mem]
      intro i hi
      obtain ⟨h1, o, ho, _⟩ := mem_ready.1 hi
      have hlt : i < ops.size := (Array.getElem?_eq_some_iff.1 ho).1
      have := hall i hlt
      have hl : i < listed.size := by rw [md.size]; exact hlt
      simp [hl] at h1 this
      rw [h1] at this; cases this
    refine ⟨hready, ?_⟩
    have hcnt : cnt ops listed = (List.range ops.size).countP (effAt ops) := by
      refine List.countP_congr fun k hk => ?_
      rw [hall k (List.mem_range.1 hk)]; simp
    have hH : H = Hl := by
      have := md.at_
      rw [hcnt, hlast] at this
      exact (Option.some.inj this).symm
    subst hH
    refine ⟨rfl, m, md.rw_, md.st, md.fr.less fun t => .inr ?_, md.tn, md.df⟩
    by_cases hex : ∃ (k : Nat) (p : Oper), ops[k]? = some p ∧ p.dst = some t
    · obtain ⟨k, p, hk, hd⟩ := hex
      exact (md.given k p t hk (hall k (Array.getElem?_eq_some_iff.1 hk).1) hd).symm
    · rw [md.other t fun k p hk _ hd => hex ⟨k, p, hk, hd⟩]
      exact hsame t fun k p hk hd => hex ⟨k, p, hk, hd⟩
  | fuel + 1, listed, a, w, E, m, H, md, hf => by
    refine ⟨?_, ?_⟩
    · intro hempty
      exfalso
      have hpos : 0 < (List.range ops.size).countP (fun k => !listed.getD k false) := by omega
      obtain ⟨k, hk, hkl⟩ := List.countP_pos_iff.1 hpos
      have key : ∀ i, i < ops.size → listed.getD i false = false → False := by
        intro i
        induction i using Nat.strongRecOn with
        | _ i ih =>
          intro hi hl
          have ho : ops[i]? = some ops[i] := Array.getElem?_eq_getElem hi
          have hl' : i < listed.size := by rw [md.size]; exact hi
          have : i ∈ Region.ready .any ops listed := by
            refine mem_ready.2 ⟨by simpa [hl'] using hl, _, ho, ?_⟩
            intro e he hbd
            have hlt := hp.back i _ ho e he hbd
            cases hq : listed.getD e.on false with
            | true => rfl
            | false => exact (ih e.on hlt (by omega) hq).elim
          rw [hempty] at this
          cases this
      exact key k (List.mem_range.1 hk) (by simpa using hkl)
    · intro i hi
      refine wpOp_mono ?_ (md.step hti hp hb hds told alike hi)
      rintro a' w' ⟨E', m', H', md'⟩
      refine Mid.run hti hp hb hds told alike hsame hlast fuel _ a' w' E' m' H' md' ?_
      obtain ⟨h1, o, ho, _⟩ := mem_ready.1 hi
      have hlt : i < ops.size := (Array.getElem?_eq_some_iff.1 ho).1
      have hl : i < listed.size := by rw [md.size]; exact hlt
      have h1' : listed.getD i false = false := by simpa [hl] using h1
      have := countP_upd i (fun k => !(listed.setIfInBounds i true).getD k false) (fun k => !listed.getD k false) (by rw [getD_set_eq hl]; rfl) (by rw [h1']; rfl) (fun k hk => by rw [getD_set_ne false (Ne.symm hk)]) ops.size hlt
      omega
theorem drawS_ok {P : Program} {C : Cx} (hti : ∀ t i, C.ti t = some i → mkTi P t = some i) (hm : P.follows .mixedOrders = true) {ops : Array Oper} {id n base : Nat} {pl : List (Nat × Nat × Nat)} {env env' : Env} {H : Hp} {hs : List Hp} {m : Mp} {w : World} {a : Act}
    (hds : ops.toList.all (dstOk n) = true) (hp : planOk ops pl = true) (hD : OpsD P C ops.toList ops.toList env H env' hs) (hq : AlikeP C ops env' (H :: hs) pl) (fr : FR m env a.tmps) (hn : n ≤ a.tmps.size) (hd : a.defers = []) (rw : RW m H w base) :
    (Code.region id ops true).wp P (Post m w base n env' (lastH H hs)) a w := by
  have hp := planOk_spec hp
  have hdd : ∀ (i j : Nat) (o p : Oper), ops.toList[i]? = some o → ops.toList[j]? = some p → i < j → ∀ d, o.dst = some d → p.dst ≠ some d := by
    intro i j o p ho hpj hij d hdi
    rw [Array.getElem?_toList] at ho hpj
    exact hp.once j i p o hpj ho (by omega) d hdi
  obtain ⟨told, hlen⟩ := opsD_told ops.toList env env' H hs hD hdd
  have hcount : hs.length = (List.range ops.size).countP (effAt ops) := by
    have := take_count ops ops.size (Nat.le_refl _)
    rw [List.take_of_length_le (by simp)] at this
    rw [hlen, this]
  have hrep : ∀ k, (Array.replicate ops.size false).getD k false = false := by
    intro k
    by_cases hk : k < ops.size
    · simp [hk]
    · have h1 : (Array.replicate ops.size false)[k]? = none := Array.getElem?_eq_none (by simp; omega)
      simp [h1]
  refine wp_region_any hm ?_
  have rw' : RW m H { w with drawn := w.drawn + 1 } base := rw.drawn _
  have hlk : ∀ t, (∀ (k : Nat) (p : Oper), ops[k]? = some p → p.dst ≠ some t) → look env' t = look env t := fun t ht => opsD_look hD fun o ho => by
    obtain ⟨k, hk⟩ := List.mem_iff_getElem?.1 ho
    rw [Array.getElem?_toList] at hk
    exact ht k o hk
  refine Mid.run hti hp rw.base_le hds told hq hlk (Hl := lastH H hs) (by rw [← hcount]; exact lastH_get hs H) ops.size (Array.replicate ops.size false) a { w with drawn := w.drawn + 1 } env m H ⟨by simp, ?_, fr, hn, hd, fun _ _ => rfl, ?_, ?_, rw', St.drawn _ _ _ _⟩ ?_
  · intro i o _ hl
    rw [hrep] at hl; cases hl
  · intro k p d _ hl
    rw [hrep] at hl; cases hl
  · have : cnt ops (Array.replicate ops.size false) = 0 := by
      rw [cnt, List.countP_eq_zero]
      intro k _
      rw [hrep]; simp
    rw [this]; rfl
  · rw [List.countP_eq_length.2]
    · simp
    · intro k hk
      rw [hrep]; rfl
end Go.Proofs.Ytfkefelgjbfkjaa.Am
