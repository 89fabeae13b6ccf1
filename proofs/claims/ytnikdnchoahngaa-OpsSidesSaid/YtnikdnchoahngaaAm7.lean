/- Each operation of the abstract machine tells what Go's machine does. Third part: comparisons, conversions, parts. -/
import Derived.Test.YtnikdnchoahngaaAm6
import Derived.Laws.StructEq
set_option linter.unusedVariables false
set_option linter.unusedSimpArgs false
namespace Go.Proofs.Ytnikdnchoahngaa.Am
open Go

theorem kindT_bool {P : Program} {t : TypeId} (h : kindT P t = .bool) : P.underlying t = some .bool := by
  unfold kindT at h
  cases hu : P.underlying t with
  | none => rw [hu] at h; cases h
  | some d => rw [hu] at h; cases d <;> simp [Tk.of] at h; rfl
theorem kindT_string {P : Program} {t : TypeId} (h : kindT P t = .string) : P.underlying t = some .string := by
  unfold kindT at h
  cases hu : P.underlying t with
  | none => rw [hu] at h; cases h
  | some d => rw [hu] at h; cases d <;> simp [Tk.of] at h; rfl
theorem kindT_int {P : Program} {t : TypeId} {k : IntKind} (h : kindT P t = .int k) : P.underlying t = some (.int k) := by
  unfold kindT at h
  cases hu : P.underlying t with
  | none => rw [hu] at h; cases h
  | some d => rw [hu] at h; cases d <;> simp [Tk.of] at h; rw [h]
theorem scal_ok {P : Program} {m : Mp} {w : World} {t : TypeId} {x y : AV} {c d : Value} {r : Bool} (h : scalEq (kindT P t) x y = some r) (hx : VR m x c) (hy : VR m y d) :
    (Op.equalIn 9999 t c d).run P w = .ok r w ∧ (isAgg t).run P w = .ok false w := by
  cases hk : kindT P t <;> rw [hk] at h <;> cases x <;> cases y <;> simp only [scalEq] at h <;> try (cases h; done)
  · cases h
    simp only [VR] at hx hy
    subst hx; subst hy
    have hu := kindT_bool hk
    exact ⟨run_equalIn_bool' w 9998 t _ _ hu, by simp [isAgg, run_underlying hu]⟩
  · split at h
    · rename_i e
      cases h
      subst e
      simp only [VR] at hx hy
      subst hx; subst hy
      have hu := kindT_int hk
      refine ⟨?_, by simp [isAgg, run_underlying hu]⟩
      rw [run_equalIn_int w 9998 t _ _ _ _ hu]
      rfl
    · cases h
  · cases h
    simp only [VR] at hx hy
    obtain ⟨s, rfl, rfl⟩ := hx
    obtain ⟨u, rfl, rfl⟩ := hy
    have hu := kindT_string hk
    refine ⟨?_, by simp [isAgg, run_underlying hu]⟩
    rw [run_equalIn_string w 9998 t _ _ hu, eqL_eq, ByteArray.toList_eq, ByteArray.toList_eq]
theorem VRs.cons_drop {m : Mp} {x : AV} {xs : List AV} {cs : Array Value} {i : Nat} (h : VRs m (x :: xs) (cs.toList.drop i)) : ∃ c, cs[i]? = some c ∧ VR m x c ∧ VRs m xs (cs.toList.drop (i + 1)) := by
  simp only [VRs] at h
  obtain ⟨y, ys, e, h1, h2⟩ := h
  have h0 : (cs.toList.drop i)[0]? = some y := by rw [e]; rfl
  rw [List.getElem?_drop] at h0
  refine ⟨y, by simpa using h0, h1, ?_⟩
  have : cs.toList.drop (i + 1) = (cs.toList.drop i).drop 1 := by rw [List.drop_drop]
  rw [this, e]
  exact h2
theorem run_part_one {P : Program} {w : World} {t : TypeId} {cs : Array Value} {i : Nat} {c : Value} (ha : (isAgg t).run P w = .ok false w) (hc : cs[i]? = some c) : (part t cs i).run P w = .ok c w := by
  simp [part, ha, hc]
theorem eqFields_ok {P : Program} {m : Mp} {w : World} {xs ys : Array Value} : ∀ (fs : List Field) (i : Nat) (as bs : List AV) (r : Bool), fs.map (·.offset) = List.range' i fs.length → (fs.all (fun f => f.name != "_")) = true → VRs m as (xs.toList.drop i) → VRs m bs (ys.toList.drop i) →
    aggEq (fs.map fun f => kindT P f.type) as bs = some r → (Op.eqFields 9999 xs ys fs).run P w = .ok r w
  | [], i, as, bs, r, _, _, _, _, h => by
    cases as <;> cases bs <;> simp only [List.map_nil, aggEq] at h <;> cases h
    simp [Op.eqFields]
  | f :: fs, i, as, bs, r, ho, hn, ha, hb, h => by
    cases as with
    | nil => simp [aggEq] at h
    | cons a as =>
      cases bs with
      | nil => simp [aggEq] at h
      | cons b bs =>
        simp only [List.map_cons, aggEq] at h
        simp only [List.map_cons, List.length_cons, List.range'_succ, List.cons.injEq] at ho
        simp only [List.all_cons, Bool.and_eq_true] at hn
        obtain ⟨c, hc, hca, ha'⟩ := VRs.cons_drop ha
        obtain ⟨d, hd, hdb, hb'⟩ := VRs.cons_drop hb
        cases h1 : scalEq (kindT P f.type) a b with
        | none => rw [h1] at h; cases h
        | some r1 =>
          cases h2 : aggEq (fs.map fun f => kindT P f.type) as bs with
          | none => rw [h1, h2] at h; cases h
          | some r2 =>
            rw [h1, h2] at h
            cases h
            obtain ⟨e1, e2⟩ := scal_ok (w := w) h1 hca hdb
            have ih := eqFields_ok (P := P) (w := w) fs (i + 1) as bs r2 ho.2 hn.2 ha' hb' h2
            have hne : f.name ≠ "_" := by simpa using hn.1
            simp only [Op.eqFields, hne, ne_eq, not_false_eq_true, if_true, Sem.run_bind, ho.1, run_part_one e2 hc, run_part_one e2 hd, e1, Result.andThen_ok]
            cases r1
            · simp
            · simpa using ih
theorem eqItems_ok {P : Program} {m : Mp} {w : World} {e : TypeId} {xs ys : Array Value} : ∀ (n i : Nat) (as bs : List AV) (r : Bool), VRs m as (xs.toList.drop i) → VRs m bs (ys.toList.drop i) →
    aggEq (List.replicate n (kindT P e)) as bs = some r → (Op.eqItems 9999 e 1 xs ys (List.range' i n)).run P w = .ok r w
  | 0, i, as, bs, r, _, _, h => by
    cases as <;> cases bs <;> simp only [List.replicate_zero, aggEq] at h <;> cases h
    simp [Op.eqItems]
  | n + 1, i, as, bs, r, ha, hb, h => by
    cases as with
    | nil => simp [List.replicate_succ, aggEq] at h
    | cons a as =>
      cases bs with
      | nil => simp [List.replicate_succ, aggEq] at h
      | cons b bs =>
        simp only [List.replicate_succ, aggEq] at h
        obtain ⟨c, hc, hca, ha'⟩ := VRs.cons_drop ha
        obtain ⟨d, hd, hdb, hb'⟩ := VRs.cons_drop hb
        cases h1 : scalEq (kindT P e) a b with
        | none => rw [h1] at h; cases h
        | some r1 =>
          cases h2 : aggEq (List.replicate n (kindT P e)) as bs with
          | none => rw [h1, h2] at h; cases h
          | some r2 =>
            rw [h1, h2] at h
            cases h
            obtain ⟨e1, e2⟩ := scal_ok (w := w) h1 hca hdb
            have ih := eqItems_ok (P := P) (w := w) n (i + 1) as bs r2 ha' hb' h2
            simp only [List.range'_succ, Op.eqItems, Nat.mul_one, Sem.run_bind, run_part_one e2 hc, run_part_one e2 hd, e1, Result.andThen_ok]
            cases r1
            · simp
            · simpa using ih
theorem agg_eq {P : Program} {m : Mp} {w : World} {t : TypeId} {d : TypeDesc} {ks : List Tk} (hu : P.underlying t = some d) (hf : flatOf P t d = some ks) {as bs : List AV} {xs ys : Array Value} (ha : VRs m as xs.toList) (hb : VRs m bs ys.toList) {r : Bool} (h : aggEq ks as bs = some r) :
    (Op.equalIn 10000 t (.agg xs) (.agg ys)).run P w = .ok r w ∧ P.eqGuardType P.depth t = false := by
  cases d <;> simp only [flatOf] at hf <;> try (cases hf; done)
  case struct fs =>
    split at hf
    · rename_i hc
      cases hf
      simp only [Bool.and_eq_true, Bool.not_eq_true', beq_iff_eq] at hc
      obtain ⟨⟨⟨h1, h2⟩, h3⟩, h4⟩ := hc
      have hfs : P.fieldsOf t = fs := by simp [Program.fieldsOf, hu]
      refine ⟨?_, h2⟩
      rw [run_equalIn_struct w 9999 t xs ys (by rw [hfs]; exact hu) h1, hfs]
      exact eqFields_ok fs.toList 0 as bs r h3 h4 (by simpa using ha) (by simpa using hb) h
    · cases hf
  case array n e =>
    split at hf
    · rename_i hc
      cases hf
      simp only [Bool.and_eq_true, Bool.not_eq_true', beq_iff_eq] at hc
      obtain ⟨⟨h1, h2⟩, h3⟩ := hc
      obtain ⟨i, hi⟩ := Option.isSome_iff_exists.1 h2
      refine ⟨?_, h1⟩
      rw [run_equalIn_array (w := w) 9999 xs ys hu hi, h3, List.range_eq_range']
      exact eqItems_ok n 0 as bs r (by simpa using ha) (by simpa using hb) h
    · cases hf
end Go.Proofs.Ytnikdnchoahngaa.Am
