/- Each operation of the abstract machine tells what Go's machine does. Sixth part: addresses, fields, elements, values made of parts. -/
import Derived.Test.YtnikdnchoahngaaAm9
set_option linter.unusedVariables false
set_option linter.unusedSimpArgs false
namespace Go.Proofs.Ytnikdnchoahngaa.Am
open Go

theorem op_fieldAddr {P : Program} {C : Cx} (hti : ∀ t i, C.ti t = some i → mkTi P t = some i) {m : Mp} {w : World} {s f : Nat} {i : Ti} {r v off o t z : Nat} {c : Value} (hs : C.ti s = some i) (hk : i.kind = .struct) (hf : i.fields[f]? = some (o, t)) (hz : sizeOfT C t = some z) (h0 : z ≠ 0) (hp : VR m (.ptr r v off) c) :
    ∃ e, (Instr.fieldAt s c f).run P w = .ok e w ∧ VR m (.ptr r v (off + o)) e := by
  simp only [VR] at hp
  obtain ⟨B, N, hm, rfl⟩ := hp
  obtain ⟨fs, hu, hfs⟩ := ti_struct (hti _ _ hs) hk
  rw [hfs, List.getElem?_map] at hf
  cases hg : fs.toList[f]? with
  | none => rw [hg] at hf; cases hf
  | some fd =>
    rw [hg] at hf
    cases hf
    unfold sizeOfT at hz
    cases ht : C.ti fd.type with
    | none => rw [ht] at hz; cases hz
    | some j =>
      rw [ht] at hz
      cases hz
      have hsz := ti_size (hti _ _ ht) w
      have hg' : fs[f]? = some fd := by rw [← Array.getElem?_toList]; exact hg
      refine ⟨.pointer (some ⟨B, off + fd.offset, none⟩), ?_, by simp only [VR]; exact ⟨B, N, hm, rfl⟩⟩
      simp [Instr.fieldAt, Instr.sureAddr, run_underlying hu, hg', fieldPlace, hsz, h0, addr_add]
theorem part_ok {P : Program} {C : Cx} (hti : ∀ t i, C.ti t = some i → mkTi P t = some i) {m : Mp} {w : World} {t o : Nat} {j : Ti} {cs : List AV} {ys : Array Value} {v : AV} (ht : C.ti t = some j) (hv : VRs m cs ys.toList)
    (h : (if j.kind.isAgg then some (.agg ((cs.drop o).take j.size)) else cs[o]?) = some v) : ∃ e, (part t ys o).run P w = .ok e w ∧ VR m v e := by
  have ha := ti_agg (hti _ _ ht) w
  have hsz := ti_size (hti _ _ ht) w
  cases hk : j.kind.isAgg with
  | true =>
    rw [hk] at h ha
    simp only [if_true] at h
    cases h
    refine ⟨.agg (ys.extract o (o + j.size)), by simp [part, ha, hsz], ?_⟩
    simp only [VR]
    refine ⟨_, rfl, ?_⟩
    rw [Array.toList_extract]
    have := VRs.take j.size (VRs.drop o hv)
    simpa [List.extract, List.drop_take, Nat.add_sub_cancel_left] using this
  | false =>
    rw [hk] at h ha
    simp only [Bool.false_eq_true, if_false] at h
    obtain ⟨c, hc, hvc⟩ := VRs.get hv _ _ h
    rw [Array.getElem?_toList] at hc
    exact ⟨c, by simp [part, ha, hc], hvc⟩
theorem op_field {P : Program} {C : Cx} (hti : ∀ t i, C.ti t = some i → mkTi P t = some i) {m : Mp} {w : World} {t f o u : Nat} {i j : Ti} {cs : List AV} {c : Value} {v : AV} (ht : C.ti t = some i) (hk : i.kind = .struct) (hf : i.fields[f]? = some (o, u)) (hj : C.ti u = some j) (hx : VR m (.agg cs) c)
    (h : (if j.kind.isAgg then some (.agg ((cs.drop o).take j.size)) else cs[o]?) = some v) : ∃ e, (Instr.field t c f).run P w = .ok e w ∧ VR m v e := by
  simp only [VR] at hx
  obtain ⟨ys, rfl, hv⟩ := hx
  obtain ⟨fs, hu, hfs⟩ := ti_struct (hti _ _ ht) hk
  rw [hfs, List.getElem?_map] at hf
  cases hg : fs.toList[f]? with
  | none => rw [hg] at hf; cases hf
  | some fd =>
    rw [hg] at hf
    cases hf
    have hg' : fs[f]? = some fd := by rw [← Array.getElem?_toList]; exact hg
    obtain ⟨e, he, hve⟩ := part_ok (w := w) hti hj hv h
    exact ⟨e, by simp [Instr.field, run_underlying hu, hg', asAgg, he], hve⟩
theorem op_indexAddr_slice {P : Program} {C : Cx} (hti : ∀ t i, C.ti t = some i → mkTi P t = some i) {m : Mp} {w : World} {t : Nat} {i : Ti} {r v off len sz z : Nat} {k : IntKind} {n : Int} {c d : Value} (ht : C.ti t = some i) (hk : i.kind = .slice) (hz : sizeOfT C i.elem = some z) (e0 : z = sz) (h1 : 0 ≤ n) (h2 : n < len)
    (hx : VR m (.slice r v off len sz) c) (hd : VR m (.int k n) d) : ∃ e, (Instr.indexAt t c d).run P w = .ok e w ∧ VR m (.ptr r v (off + n.toNat * sz)) e := by
  simp only [VR] at hx hd
  obtain ⟨B, N, cap, hm, _, _, _, rfl⟩ := hx
  subst hd
  subst e0
  have hu := ti_slice (hti _ _ ht) hk
  unfold sizeOfT at hz
  cases he : C.ti i.elem with
  | none => rw [he] at hz; cases hz
  | some j =>
    rw [he] at hz
    cases hz
    have hsz := ti_size (hti _ _ he) w
    refine ⟨.pointer (some ⟨B, off + n.toNat * j.size, none⟩), ?_, by simp only [VR]; exact ⟨B, N, hm, rfl⟩⟩
    simp [Instr.indexAt, asIntOf, run_underlying hu, h1, h2, hsz, addr_add]
theorem op_indexAddr_array {P : Program} {C : Cx} (hti : ∀ t i, C.ti t = some i → mkTi P t = some i) {m : Mp} {w : World} {t : Nat} {i : Ti} {r v off z : Nat} {k : IntKind} {n : Int} {c d : Value} (ht : C.ti t = some i) (hk : i.kind = .array) (hz : sizeOfT C i.elem = some z) (h1 : 0 ≤ n) (h2 : n < i.len)
    (hx : VR m (.ptr r v off) c) (hd : VR m (.int k n) d) : ∃ e, (Instr.indexAt t c d).run P w = .ok e w ∧ VR m (.ptr r v (off + n.toNat * z)) e := by
  simp only [VR] at hx hd
  obtain ⟨B, N, hm, rfl⟩ := hx
  subst hd
  have hu := ti_array (hti _ _ ht) hk
  unfold sizeOfT at hz
  cases he : C.ti i.elem with
  | none => rw [he] at hz; cases hz
  | some j =>
    rw [he] at hz
    cases hz
    have hsz := ti_size (hti _ _ he) w
    refine ⟨.pointer (some ⟨B, off + n.toNat * j.size, none⟩), ?_, by simp only [VR]; exact ⟨B, N, hm, rfl⟩⟩
    simp [Instr.indexAt, asIntOf, run_underlying hu, h1, h2, hsz, addr_add, Instr.sureAddr]
theorem op_index_string {P : Program} {C : Cx} (hti : ∀ t i, C.ti t = some i → mkTi P t = some i) {m : Mp} {w : World} {t b : Nat} {i : Ti} {s : List Nat} {k : IntKind} {n : Int} {c d : Value} (ht : C.ti t = some i) (hk : i.kind = .string) (h1 : 0 ≤ n) (h2 : s[n.toNat]? = some b)
    (hx : VR m (.str s) c) (hd : VR m (.int k n) d) : ∃ e, (Instr.index t c d).run P w = .ok e w ∧ VR m (.int .u8 b) e := by
  simp only [VR] at hx hd
  obtain ⟨u, rfl, rfl⟩ := hx
  subst hd
  have hu := ti_string (hti _ _ ht) hk
  rw [List.getElem?_map, Array.getElem?_toList] at h2
  cases hg : u.data[n.toNat]? with
  | none => rw [hg] at h2; cases h2
  | some x =>
    rw [hg] at h2
    cases h2
    have hg' : u[n.toNat]? = some x := by
      obtain ⟨hlt, hx⟩ := Array.getElem?_eq_some_iff.1 hg
      have hl : n.toNat < u.size := hlt
      rw [getElem?_pos u n.toNat hl]
      exact congrArg some hx
    refine ⟨.int .u8 x.toNat, ?_, by simp only [VR]⟩
    simp [Instr.index, asIntOf, run_underlying hu, h1, hg']
theorem op_index_array {P : Program} {C : Cx} (hti : ∀ t i, C.ti t = some i → mkTi P t = some i) {m : Mp} {w : World} {t : Nat} {i j : Ti} {cs : List AV} {k : IntKind} {n : Int} {c d : Value} {v : AV} (ht : C.ti t = some i) (hk : i.kind = .array) (hj : C.ti i.elem = some j) (h1 : 0 ≤ n) (h2 : n < i.len)
    (hx : VR m (.agg cs) c) (hd : VR m (.int k n) d) (h : (if j.kind.isAgg then some (.agg ((cs.drop (n.toNat * j.size)).take j.size)) else cs[n.toNat * j.size]?) = some v) : ∃ e, (Instr.index t c d).run P w = .ok e w ∧ VR m v e := by
  simp only [VR] at hx hd
  obtain ⟨ys, rfl, hv⟩ := hx
  subst hd
  have hu := ti_array (hti _ _ ht) hk
  have hsz := ti_size (hti _ _ hj) w
  obtain ⟨e, he, hve⟩ := part_ok (w := w) hti hj hv h
  exact ⟨e, by simp [Instr.index, asIntOf, run_underlying hu, h1, h2, hsz, he], hve⟩
theorem op_extract {P : Program} {m : Mp} {w : World} {vs : List AV} {ix : Nat} {v : AV} {c : Value} (h : vs[ix]? = some v) (hx : VR m (.tuple vs) c) : ∃ e, (Instr.extract c ix).run P w = .ok e w ∧ VR m v e := by
  simp only [VR] at hx
  obtain ⟨ys, rfl, hv⟩ := hx
  obtain ⟨e, he, hve⟩ := VRs.get hv _ _ h
  rw [Array.getElem?_toList] at he
  exact ⟨e, by simp [Instr.extract, he], hve⟩
theorem op_makeInterface {P : Program} {C : Cx} (hti : ∀ t i, C.ti t = some i → mkTi P t = some i) {m : Mp} {w : World} {t : Nat} {i : Ti} {x : AV} {c : Value} (ht : C.ti t = some i) (hk : i.kind ≠ .iface) (hx : VR m x c) : ∃ e, (Instr.makeInterface t c).run P w = .ok e w ∧ VR m (.iface t x) e := by
  obtain ⟨j, d, h1, hu, _⟩ := mkTi_spec (hti _ _ ht)
  rcases (ti_iface (hti _ _ ht)).2 with h | h
  · refine ⟨.iface t c, ?_, by simp only [VR]; exact ⟨c, rfl, hx⟩⟩
    cases d <;> first | (simp [Instr.makeInterface, run_underlying hu]; done) | exact absurd hu (h _)
  · exact absurd h hk
theorem op_typeAssert {P : Program} {C : Cx} (hti : ∀ t i, C.ti t = some i → mkTi P t = some i) {m : Mp} {w : World} {T xt : Nat} {i : Ti} {x : AV} {c : Value} (ok : Bool) (hT : C.ti T = some i) (hk : i.kind ≠ .iface) (hx : VR m (.iface T x) c) :
    ∃ e, (Instr.typeAssert c xt T ok).run P w = .ok e w ∧ VR m (if ok then .tuple [x, .bool true] else x) e := by
  obtain ⟨j, d, h1, hu, _⟩ := mkTi_spec (hti _ _ hT)
  simp only [VR] at hx
  obtain ⟨y, rfl, hv⟩ := hx
  rcases (ti_iface (hti _ _ hT)).2 with h | h
  · refine ⟨if ok then .tuple #[y, .bool true] else y, ?_, ?_⟩
    · cases d <;> first | exact absurd hu (h _) | (cases ok <;> simp [Instr.typeAssert, run_underlying hu])
    · cases ok with
      | true => simp [VR, VRs, hv]
      | false => simpa using hv
  · exact absurd h hk
end Go.Proofs.Ytnikdnchoahngaa.Am
