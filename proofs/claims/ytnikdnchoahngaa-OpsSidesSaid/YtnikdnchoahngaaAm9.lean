/- Each operation of the abstract machine tells what Go's machine does. Fifth part: conversions, slices, parts of values. -/
import Derived.Test.YtnikdnchoahngaaAm8
import Derived.Laws.BytesArg
set_option linter.unusedVariables false
set_option linter.unusedSimpArgs false
namespace Go.Proofs.Ytnikdnchoahngaa.Am
open Go

theorem bytesOf_spec : ∀ {xs : List AV} {l : List Nat}, bytesOf xs = some l → ∃ ns : List Int, xs = ns.map (AV.int .u8) ∧ l = ns.map (·.toNat) ∧ ∀ n ∈ ns, 0 ≤ n ∧ n ≤ 255
  | [], l, h => by simp only [bytesOf] at h; cases h; exact ⟨[], rfl, rfl, by simp⟩
  | x :: xs, l, h => by
    unfold bytesOf at h
    split at h <;> rename_i e1
    · cases e1
    · rename_i n r
      cases e1
      cases hb : bytesOf xs with
      | none => rw [hb] at h; cases h
      | some l' =>
        rw [hb] at h
        simp only at h
        split at h
        · rename_i hn
          cases h
          obtain ⟨ns, h1, h2, h3⟩ := bytesOf_spec hb
          exact ⟨n :: ns, by rw [h1]; rfl, by rw [h2]; rfl, by
            intro k hk
            rcases List.mem_cons.1 hk with rfl | hk
            · exact hn
            · exact h3 k hk⟩
        · cases h
    · cases h
theorem VRs_ints {m : Mp} : ∀ {ns : List Int} {l : List Value}, VRs m (ns.map (AV.int .u8)) l → l = ns.map (Value.int .u8)
  | [], l, h => by simpa only [List.map_nil, VRs] using h
  | n :: ns, l, h => by
    simp only [List.map_cons, VRs, VR] at h
    obtain ⟨y, ys, rfl, rfl, h2⟩ := h
    rw [VRs_ints h2]; rfl
theorem strOfNums_nats (ns : List Int) (h : ∀ n ∈ ns, 0 ≤ n ∧ n ≤ 255) : (strOfNums ns).data.toList.map (·.toNat) = ns.map (·.toNat) := by
  rw [strOfNums_data, List.map_map]
  apply List.map_congr_left
  intro n hn
  have := h n hn
  simp
  omega
theorem convV_ok {P : Program} {C : Cx} (hti : ∀ t i, C.ti t = some i → mkTi P t = some i) {m : Mp} {H H' : Hp} {w : World} {base : Nat} {src dst : Nat} {x v : AV} {c : Value} (h : convV C H src dst x = some (v, H')) (hx : VR m x c) (rw : RW m H w base) :
    H' = H ∧ ∃ e, (convert src dst c).run P w = .ok e w ∧ VR m v e := by
  unfold convV at h
  cases ha : C.ti src with
  | none => rw [ha] at h; cases h
  | some a =>
    cases hb : C.ti dst with
    | none => rw [ha, hb] at h; cases h
    | some b =>
      rw [ha, hb] at h
      simp only at h
      obtain ⟨j, d, _, hus, _⟩ := mkTi_spec (hti _ _ ha)
      split at h
      · rename_i k k' n hk
        cases h
        simp only [VR] at hx
        subst hx
        have hud := ti_int (hti _ _ hb) hk
        refine ⟨rfl, .int k (k.wrap n), ?_, by simp only [VR, fwrap_eq]⟩
        simp [convert, run_underlying hus, run_underlying hud, Conv.intToInt]
      · rename_i q r hk
        cases h
        simp only [VR] at hx
        obtain ⟨n, rfl, hn, _⟩ := hx
        have hud := ti_int (hti _ _ hb) hk
        have hw : IntKind.u64.wrap n = n % 18446744073709551616 := by simp [IntKind.wrap, IntKind.bits, IntKind.signed]
        refine ⟨rfl, .int .u64 (IntKind.u64.wrap n), ?_, ?_⟩
        · simp [convert, run_underlying hus, run_underlying hud, Conv.intToInt]
        · simp only [VR]
          refine ⟨_, rfl, ?_, fun _ => ?_⟩
          · rw [hw, Int.emod_emod]; exact hn
          · rw [hw]
            exact ⟨Int.emod_nonneg _ (by decide), Int.emod_lt_of_pos _ (by decide)⟩
      · rename_i k n hk
        cases h
        simp only [VR] at hx
        subst hx
        have hud := ti_string (hti _ _ hb) hk
        refine ⟨rfl, .string (Utf8.encode n), ?_, by simp only [VR]; exact ⟨_, rfl, rfl⟩⟩
        simp [convert, run_underlying hus, run_underlying hud, Conv.intToString]
      · rename_i s hk
        cases h
        simp only [VR] at hx
        obtain ⟨s, rfl, rfl⟩ := hx
        have hud := ti_string (hti _ _ hb) hk
        refine ⟨rfl, .string s, ?_, by simp only [VR]; exact ⟨_, rfl, rfl⟩⟩
        cases d <;> simp [convert, run_underlying hus, run_underlying hud]
      · rename_i hk
        have hud := ti_string (hti _ _ hb) hk
        simp only [VR] at hx
        subst hx
        split at h
        · rename_i e hka he
          split at h
          · rename_i hke
            cases h
            refine ⟨rfl, .string .empty, run_convert_bytes_nil w src a.elem (ti_slice (hti _ _ ha) hka) (ti_int (hti _ _ he) hke) 0 0 dst hud, by simp only [VR]; exact ⟨_, rfl, rfl⟩⟩
          · cases h
        · cases h
      · rename_i r v' off len sz hk
        have hud := ti_string (hti _ _ hb) hk
        simp only [VR] at hx
        obtain ⟨B, N, cap, hm, _, _, _, rfl⟩ := hx
        split at h
        · rename_i e hka he
          split at h
          · rename_i hke
            split at h
            · rename_i hsz
              cases hrd : rd H r v' off len with
              | none => rw [hrd] at h; cases h
              | some cs =>
                rw [hrd] at h
                simp only at h
                cases hby : bytesOf cs with
                | none => rw [hby] at h; cases h
                | some l =>
                  rw [hby] at h
                  cases h
                  obtain ⟨hl, vs, hv, hc⟩ := rd_ok hrd rw hm
                  obtain ⟨ns, rfl, rfl, hns⟩ := bytesOf_spec hby
                  have hvs := VRs_ints hv
                  subst hvs
                  refine ⟨rfl, .string (strOfNums ns), run_convert_bytes_arg w src a.elem (ti_slice (hti _ _ ha) hka) (ti_int (hti _ _ he) hke) B off len cap ns (by simpa using hl) (fun i hi => ?_) dst hud, by simp only [VR]; exact ⟨_, rfl, strOfNums_nats ns hns⟩⟩
                  have hi' : i < ns.length := by simp at hl; omega
                  refine hc i _ ?_
                  simp [List.getElem?_eq_getElem hi', List.getD_eq_getElem?_getD]
            · cases h
          · cases h
        · cases h
      · cases h

theorem bound_ok {P : Program} {m : Mp} {w : World} {x : AV} {c : Value} {y n : Nat} {code : BoundsCode} (h : bound x y = some n) (hx : VR m x c) : (Instr.sliceBound c y code).run P w = .ok n w ∧ n ≤ y := by
  unfold bound at h
  split at h
  · split at h
    · rename_i hc
      cases h
      simp only [VR] at hx
      subst hx
      refine ⟨?_, by omega⟩
      simp only [Instr.sliceBound, asIntOf, Sem.run_bind, Sem.run_pure, Result.andThen_ok]
      rw [if_pos hc]; rfl
    · cases h
  · cases h
/-- Optional bounds. -/
def VRo (m : Mp) : Option AV → Option Value → Prop
  | none, none => True
  | some x, some c => VR m x c
  | _, _ => False
theorem boundO_ok {P : Program} {m : Mp} {w : World} {x : Option AV} {c : Option Value} {y d n : Nat} {code : BoundsCode} (h : boundO x y d = some n) (hd : d ≤ y) (hx : VRo m x c) : (match c with | some v => Instr.sliceBound v y code | none => pure d : Sem Nat).run P w = .ok n w ∧ n ≤ y := by
  cases x <;> cases c <;> simp only [VRo] at hx
  · simp only [boundO] at h; cases h; exact ⟨rfl, hd⟩
  · simp only [boundO] at h; exact bound_ok h hx
theorem bounds_ok {P : Program} {m : Mp} {w : World} {lo hi : Option AV} {cl ch : Option Value} {isS : Bool} {len cap l h : Nat} (hh : boundO hi len len = some h) (hl : boundO lo h 0 = some l) (h1 : VRo m lo cl) (h2 : VRo m hi ch) (hcap : len ≤ cap) (hs : cap = len ∨ ∀ x, hi = some x → ∃ k i, x = .int k i) :
    (Instr.sliceBounds isS len cap cl ch none).run P w = .ok (l, h, cap) w ∧ l ≤ h ∧ h ≤ len := by
  have hh' : boundO hi cap len = some h ∧ h ≤ len := by
    cases hi with
    | none => simp only [boundO] at hh ⊢; cases hh; exact ⟨rfl, Nat.le_refl _⟩
    | some x =>
      simp only [boundO] at hh ⊢
      unfold bound at hh ⊢
      split at hh
      · split at hh
        · rename_i hc
          cases hh
          rw [if_pos (by omega)]
          exact ⟨rfl, by omega⟩
        · cases hh
      · cases hh
  obtain ⟨e1, e2⟩ := boundO_ok (P := P) (w := w) (code := if isS then .sliceAcap else .sliceAlen) hh'.1 hcap h2
  obtain ⟨e3, e4⟩ := boundO_ok (P := P) (w := w) (code := .sliceB) hl (Nat.zero_le _) h1
  refine ⟨?_, e4, hh'.2⟩
  unfold Instr.sliceBounds
  cases ch <;> cases cl <;> simp only [Sem.run_pure] at e1 e3 <;> simp_all

theorem sliceV_ok {P : Program} {C : Cx} (hti : ∀ t i, C.ti t = some i → mkTi P t = some i) {m : Mp} {w : World} {t : Nat} {x v : AV} {c : Value} {lo hi : Option AV} {cl ch : Option Value} (h : sliceV C t x lo hi = some v) (hx : VR m x c) (h1 : VRo m lo cl) (h2 : VRo m hi ch) (hdom : ∀ r v B N, m r v = some (B, N) → v ≤ N) :
    ∃ e, (Instr.sliceAt t c cl ch none).run P w = .ok e w ∧ VR m v e := by
  unfold sliceV at h
  cases ht : C.ti t with
  | none => rw [ht] at h; cases h
  | some i =>
    rw [ht] at h
    simp only at h
    have hi' := hti _ _ ht
    split at h
    · rename_i s hk
      simp only [VR] at hx
      obtain ⟨s, rfl, rfl⟩ := hx
      cases hb : boundO hi (s.data.toList.map (·.toNat)).length (s.data.toList.map (·.toNat)).length with
      | none => rw [hb] at h; cases h
      | some hh =>
        rw [hb] at h
        simp only at h
        cases hb2 : boundO lo hh 0 with
        | none => rw [hb2] at h; cases h
        | some l =>
          rw [hb2] at h
          cases h
          have hsz : (s.data.toList.map (·.toNat)).length = s.size := by simp
          rw [hsz] at hb
          obtain ⟨e1, e2, e3⟩ := bounds_ok (P := P) (w := w) (isS := false) hb hb2 h1 h2 (Nat.le_refl _) (.inl rfl)
          refine ⟨.string (s.extract l hh), ?_, ?_⟩
          · simp [Instr.sliceAt, Instr.slice, run_underlying (ti_string hi' hk), e1]
          · simp only [VR]
            refine ⟨_, rfl, ?_⟩
            rw [ByteArray.data_extract, Array.toList_extract]
            simp [List.extract, List.map_drop, List.map_take, List.drop_take]
    · rename_i r v' off len sz hk
      simp only [VR] at hx
      obtain ⟨B, N, cap, hm, hb1, hb2, hb3, rfl⟩ := hx
      cases hb : boundO hi len len with
      | none => rw [hb] at h; cases h
      | some hh =>
        rw [hb] at h
        simp only at h
        cases hbl : boundO lo hh 0 with
        | none => rw [hbl] at h; cases h
        | some l =>
          rw [hbl] at h
          simp only at h
          unfold sizeOfT at h
          cases he : C.ti i.elem with
          | none => rw [he] at h; cases h
          | some j =>
            rw [he] at h
            simp only [Option.map_some] at h
            split at h
            · rename_i hc
              cases h
              obtain ⟨hz, hlt, hpos⟩ := hc
              have hint : ∀ x, hi = some x → ∃ k i, x = .int k i := by
                intro x hx
                subst hx
                simp only [boundO, bound] at hb
                split at hb
                · exact ⟨_, _, rfl⟩
                · cases hb
              obtain ⟨e1, e2, e3⟩ := bounds_ok (P := P) (w := w) (isS := true) hb hbl h1 h2 hb2 (.inr hint)
              refine ⟨.slice (some ⟨B, off + l * sz, none⟩) (hh - l) (cap - l), ?_, ?_⟩
              · have hne : ¬ cap = l := by omega
                have hsz := ti_size (hti _ _ he) w
                rw [hz] at hsz
                simp [Instr.sliceAt, Instr.slice, run_underlying (ti_slice hi' hk), e1, hsz, hne, addr_add]
              · simp only [VR]
                have q1 : l * sz + (hh - l) * sz = hh * sz := by rw [← Nat.add_mul]; congr 1; omega
                have q2 : hh * sz ≤ len * sz := Nat.mul_le_mul_right _ e3
                have q3 : l * sz + (cap - l) * sz = cap * sz := by rw [← Nat.add_mul]; congr 1; omega
                exact ⟨B, N, cap - l, hm, by omega, by omega, by omega, rfl⟩
            · cases h
    · rename_i hk
      simp only [VR] at hx
      subst hx
      cases hb : boundO hi 0 0 with
      | none => rw [hb] at h; cases h
      | some hh =>
        rw [hb] at h
        simp only at h
        cases hbl : boundO lo hh 0 with
        | none => rw [hbl] at h; cases h
        | some l =>
          rw [hbl] at h
          simp only at h
          unfold sizeOfT at h
          cases he : C.ti i.elem with
          | none => rw [he] at h; cases h
          | some j =>
            rw [he] at h
            cases h
            obtain ⟨e1, e2, e3⟩ := bounds_ok (P := P) (w := w) (isS := true) hb hbl h1 h2 (Nat.le_refl _) (.inl rfl)
            obtain rfl : hh = 0 := by omega
            obtain rfl : l = 0 := by omega
            refine ⟨.slice none 0 0, ?_, by simp only [VR]⟩
            simp [Instr.sliceAt, Instr.slice, run_underlying (ti_slice hi' hk), e1, ti_size (hti _ _ he) w]
    · rename_i r v' off hk
      simp only [VR] at hx
      obtain ⟨B, N, hm, rfl⟩ := hx
      cases hb : boundO hi i.len i.len with
      | none => rw [hb] at h; cases h
      | some hh =>
        rw [hb] at h
        simp only at h
        cases hbl : boundO lo hh 0 with
        | none => rw [hbl] at h; cases h
        | some l =>
          rw [hbl] at h
          simp only at h
          unfold sizeOfT at h
          cases he : C.ti i.elem with
          | none => rw [he] at h; cases h
          | some j =>
            rw [he] at h
            simp only [Option.map_some] at h
            split at h
            · rename_i hc
              cases h
              obtain ⟨hN, hlt, hpos⟩ := hc
              obtain ⟨e1, e2, e3⟩ := bounds_ok (P := P) (w := w) (isS := false) hb hbl h1 h2 (Nat.le_refl _) (.inl rfl)
              refine ⟨.slice (some ⟨B, off + l * j.size, none⟩) (hh - l) (i.len - l), ?_, ?_⟩
              · have hne : ¬ i.len = l := by omega
                simp [Instr.sliceAt, Instr.sureAddr, run_underlying (ti_array hi' hk), e1, ti_size (hti _ _ he) w, hne, addr_add]
              · simp only [VR]
                have q1 : l * j.size + (hh - l) * j.size = hh * j.size := by rw [← Nat.add_mul]; congr 1; omega
                have q2 : hh * j.size ≤ i.len * j.size := Nat.mul_le_mul_right _ e3
                have q3 : l * j.size + (i.len - l) * j.size = i.len * j.size := by rw [← Nat.add_mul]; congr 1; omega
                have := hdom _ _ _ _ hm
                exact ⟨B, N, i.len - l, hm, by omega, by omega, by omega, rfl⟩
            · cases h
    · cases h
end Go.Proofs.Ytnikdnchoahngaa.Am
