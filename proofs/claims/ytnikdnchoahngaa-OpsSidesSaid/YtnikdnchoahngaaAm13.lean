/- Each operation of the abstract machine tells what Go's machine does: all of them together. -/
import Derived.Test.YtnikdnchoahngaaAm12
set_option linter.unusedVariables false
set_option linter.unusedSimpArgs false
namespace Go.Proofs.Ytnikdnchoahngaa.Am
open Go

theorem fillL_length {place : Nat → Option (Nat × Nat)} : ∀ (parts : List (Nat × AV)) (cells out : List AV), fillL place cells parts = some out → out.length = cells.length
  | [], cells, out, h => by simp only [fillL] at h; cases h; rfl
  | (i, v) :: parts, cells, out, h => by
    simp only [fillL] at h
    cases hp : place i with
    | none => rw [hp] at h; cases h
    | some q =>
      obtain ⟨off, size⟩ := q
      rw [hp] at h
      simp only at h
      split at h
      · rw [fillL_length parts _ out h, putL_length]
      · cases h
theorem Good.of {P : Program} {s : Sem Value} {m : Mp} {H : Hp} {w : World} {base : Nat} {v : AV} (rw : RW m H w base) (h : ∃ e, s.run P w = .ok e w ∧ VR m v e) : Good P (do pure (.value (← s))) m w base v H := by
  obtain ⟨e, h1, h2⟩ := h
  exact Good.val e (by simp [h1]) rw h2
theorem map_some {α β : Type} {f : α → β} {x : Option α} {y : β} (h : x.map f = some y) : ∃ z, x = some z ∧ f z = y := by
  cases x with
  | none => cases h
  | some z => exact ⟨z, rfl, by simpa using h⟩
theorem VRo_map {m : Mp} {env : Env} {a : Act} (fr : FR m env a.tmps) (x : Option Operand) : VRo m (x.map (opnd env)) (x.map a.eval) := by
  cases x with
  | none => exact True.intro
  | some x => exact opnd_ok fr x
theorem builtin_sound {P : Program} {C : Cx} (hti : ∀ t i, C.ti t = some i → mkTi P t = some i) {m : Mp} {H H' : Hp} {w : World} {base : Nat} {b : Builtin} {ts : Array TypeId} {ty : TypeId} {cn : Array Bool} {xs : List AV} {cs : Array Value} {v : AV} (h : callB C H b ts.toList xs = some (v, H')) (hx : VRs m xs cs.toList) (rw : RW m H w base) :
    Good P (builtin b ts ty cn cs) m w base v H' := by
  obtain ⟨ts⟩ := ts
  obtain ⟨cs⟩ := cs
  simp only at h hx
  unfold callB at h
  split at h
  · rename_i t ts' x
    simp only [VRs] at hx
    obtain ⟨c, cs', rfl, hc, rfl⟩ := hx
    cases ht : C.ti t with
    | none => rw [ht] at h; cases h
    | some i =>
      rw [ht] at h
      simp only at h
      split at h
      · rename_i s hk
        cases h
        exact Good.of rw (op_len_string hti ht (by simp) hk hc)
      · rename_i hk
        cases h
        exact Good.of rw (op_len_array hti ht (by simp) hk)
      · rename_i r v' off len sz hk
        cases h
        simp only [VR] at hc
        obtain ⟨B, N, cap, _, _, _, _, rfl⟩ := hc
        exact Good.of rw (op_len_slice hti ht (by simp) hk rfl)
      · rename_i hk
        cases h
        simp only [VR] at hc
        subst hc
        exact Good.of rw (op_len_slice hti ht (by simp) hk rfl)
      · cases h
  · rename_i t u s x
    simp only [VRs] at hx
    obtain ⟨c, cs', rfl, hc, d, ds, rfl, hd, rfl⟩ := hx
    cases ht : C.ti t with
    | none => rw [ht] at h; cases h
    | some i =>
      cases hu : C.ti u with
      | none => rw [ht, hu] at h; cases h
      | some j =>
        rw [ht, hu] at h
        simp only at h
        split at h
        · rename_i e hk he
          split at h
          · rename_i n z hjk hl hz
            split at h
            · rename_i new hsrc
              split at h
              · rename_i hzl
                refine appendGood hti ht hk he hz hzl ?_ hl hsrc h hc hd rw
                simp only [Bool.or_eq_true, beq_iff_eq] at hjk
                rcases hjk with hjk | hjk
                · exact .inl ⟨_, ti_slice (hti _ _ hu) hjk⟩
                · exact .inr (ti_string (hti _ _ hu) hjk)
              · cases h
            · cases h
          · cases h
        · cases h
  · rename_i t ts' d x
    simp only [VRs] at hx
    obtain ⟨c, cs', rfl, hc, y, ys, rfl, hy, rfl⟩ := hx
    cases ht : C.ti t with
    | none => rw [ht] at h; cases h
    | some i =>
      rw [ht] at h
      simp only at h
      split at h
      · rename_i e r v' off len z sl hk he hl
        split at h
        · rename_i hz
          obtain ⟨rfl, hz0⟩ := hz
          cases hsrc : srcCells H e.size (min sl len) x with
          | none => rw [hsrc] at h; cases h
          | some cs =>
            rw [hsrc] at h
            exact copyGood hti ht (by simp) hk he hl hsrc h hc hy rw
        · cases h
      · cases h
  · rename_i ts' k x k' y
    cases h
    simp only [VRs, VR] at hx
    obtain ⟨c, cs', rfl, rfl, d, ds, rfl, rfl, rfl⟩ := hx
    refine Good.of rw ⟨.int k (if x < y then y else x), ?_, by simp only [VR]⟩
    simp [Builtin.max_, Builtin.max2]
  · rename_i ts' k x k' y
    cases h
    simp only [VRs, VR] at hx
    obtain ⟨c, cs', rfl, rfl, d, ds, rfl, rfl, rfl⟩ := hx
    refine Good.of rw ⟨.int k (if y < x then y else x), ?_, by simp only [VR]⟩
    simp [Builtin.min_, Builtin.min2]
  · cases h
theorem opV_sound {P : Program} {C : Cx} (hti : ∀ t i, C.ti t = some i → mkTi P t = some i) {m : Mp} {H H' : Hp} {w : World} {base : Nat} {env : Env} {a : Act} {o : Oper} {v : AV} (h : opV C env H o = some (v, H')) (fr : FR m env a.tmps) (rw : RW m H w base) :
    Good P (execOp a.eval o) m w base v H' := by
  have hx := fun x => opnd_ok fr x
  obtain ⟨dst, op, type, pos, after, guard⟩ := o
  cases op <;> simp only [opV] at h <;> try (cases h; done)
  case move x => cases h; exact Good.val _ rfl rw (hx x)
  case assign x => cases h; exact Good.val _ rfl rw (hx x)
  case pick c x y =>
    split at h
    · rename_i t hc
      cases h
      have h1 := hx c
      rw [hc] at h1
      simp only [VR] at h1
      cases t with
      | true => exact Good.val (a.eval x) (by simp [execOp, h1, asBool]) rw (hx x)
      | false => exact Good.val (a.eval y) (by simp [execOp, h1, asBool]) rw (hx y)
    · cases h
  case alloc t =>
    cases ht : C.ti t with
    | none => rw [ht] at h; cases h
    | some i =>
      rw [ht] at h
      simp only at h
      cases hz : i.zero with
      | none => rw [hz] at h; cases h
      | some z => rw [hz] at h; exact op_alloc hti ht hz h rw
  case box t x =>
    split at h
    · rename_i hi
      exact op_box hi (hx x) h rw
    · cases h
  case build t parts =>
    obtain ⟨e1, e2⟩ := parts_ok fr parts
    cases ht : C.ti t with
    | none => rw [ht] at h; cases h
    | some i =>
      rw [ht] at h
      simp only at h
      cases hz : i.zero with
      | none => rw [hz] at h; cases h
      | some z =>
        rw [hz] at h
        simp only at h
        split at h
        · rename_i hk
          cases hf : fieldsZ C i.fields with
          | none => rw [hf] at h; cases h
          | some fs =>
            rw [hf] at h
            obtain ⟨out, ho, he⟩ := map_some h
            cases he
            exact Good.of rw (op_build_struct hti ht hz hk hf ho e1 e2)
        · rename_i hk
          cases hn : sizeOfT C i.elem with
          | none => rw [hn] at h; cases h
          | some n =>
            rw [hn] at h
            obtain ⟨out, ho, he⟩ := map_some h
            cases he
            exact Good.of rw (op_build_array hti ht hz hk hn ho e1 e2)
        · cases h
  case buildSlice t len parts =>
    obtain ⟨e1, e2⟩ := parts_ok fr parts
    cases ht : C.ti t with
    | none => rw [ht] at h; cases h
    | some i =>
      rw [ht] at h
      simp only at h
      split at h
      · rename_i e hk he
        cases hz : e.zero with
        | none => rw [hz] at h; cases h
        | some z =>
          rw [hz] at h
          simp only at h
          split at h
          · rename_i hc
            obtain ⟨q1, q2, q3⟩ := hc
            split at h
            · rename_i cs hcs
              split at h
              · rename_i r v' o' H1 ha
                cases h
                refine op_buildSlice hti ht hk he hz q1 q2 q3 hcs ?_ e1 e2 ha rw
                rw [fillL_length _ _ _ hcs, rep_length, q1]
              · cases h
            · cases h
          · cases h
      · cases h
  case load t x =>
    split at h
    · rename_i i r v' off ht hp
      split at h
      · rename_i cs hcs
        obtain ⟨y, hy, he⟩ := map_some h
        cases he
        have h1 := hx x
        rw [hp] at h1
        exact op_load hti ht h1 hcs hy rw
      · cases h
    · cases h
  case store t x y =>
    split at h
    · rename_i i r v' off ht hp
      split at h
      · rename_i hc
        obtain ⟨H1, hw, he⟩ := map_some h
        cases he
        have h1 := hx x
        rw [hp] at h1
        exact op_store hti ht h1 (hx y) hc.1 hc.2 hw rw
      · cases h
    · cases h
  case nilCheck x =>
    have h1 := hx x
    split at h
    · rename_i r v' off hp
      cases h
      rw [hp] at h1
      have h2 := h1
      simp only [VR] at h2
      obtain ⟨B, N, _, e⟩ := h2
      exact Good.val (a.eval x) (by simp [execOp, e]) rw h1
    · rename_i f p q hp
      cases h
      rw [hp] at h1
      have h2 := h1
      simp only [VR] at h2
      obtain ⟨ys, zs, e, _⟩ := h2
      exact Good.val (a.eval x) (by simp [execOp, e]) rw h1
    · cases h
  case binOp op t x y k =>
    obtain ⟨z, hz, he⟩ := map_some h
    cases he
    obtain ⟨e, h1, h2⟩ := binV_ok (P := P) (w := w) hti hz (hx x) (hx y) x y
    exact Good.of rw ⟨e, h1, h2⟩
  case unOp op t x =>
    obtain ⟨z, hz, he⟩ := map_some h
    cases he
    exact Good.of rw (unV_ok hz (hx x))
  case convert s d x =>
    obtain ⟨rfl, h1⟩ := convV_ok (P := P) hti h (hx x) rw
    exact Good.of rw h1
  case makeInterface t x =>
    cases ht : C.ti t with
    | none => rw [ht] at h; cases h
    | some i =>
      rw [ht] at h
      simp only at h
      split at h
      · cases h
      · rename_i hk
        cases h
        exact Good.of rw (op_makeInterface hti ht (fun e => hk e) (hx x))
  case makeFunc fn first caps =>
    cases fn <;> simp only at h <;> try (cases h; done)
    rename_i f
    cases h
    refine Good.val (.func (.func f) (first.map a.eval) (caps.map a.eval)) (by simp [execOp, Instr.makeFunc]) rw ?_
    simp only [VR]
    exact ⟨_, _, rfl, by simpa using opnds_ok fr first.toList, by simpa using opnds_ok fr caps.toList⟩
  case makeSlice t l c =>
    split at h
    · rename_i i k n k' n' ht hl hc
      split at h
      · rename_i e hk he
        cases hz : e.zero with
        | none => rw [hz] at h; cases h
        | some z =>
          rw [hz] at h
          simp only at h
          split at h
          · rename_i hq
            obtain ⟨rfl, q1, q2, q3, q4, q5⟩ := hq
            split at h
            · rename_i r v' o' H1 ha
              cases h
              have h1 := hx l
              have h2 := hx c
              rw [hl] at h1
              rw [hc] at h2
              exact op_makeSlice hti ht hk he hz q4 q5 q1 q2 q3 h1 h2 ha rw
            · cases h
          · cases h
      · cases h
    · cases h
  case slice t x lo hi mx =>
    cases mx with
    | some _ => cases h
    | none =>
      simp only at h
      obtain ⟨z, hz, he⟩ := map_some h
      cases he
      have := sliceV_ok (P := P) (w := w) hti hz (hx x) (VRo_map fr lo) (VRo_map fr hi) rw.vle
      exact Good.of rw this
  case fieldAddr s x f =>
    split at h
    · rename_i i r v' off hs hp
      split at h
      · rename_i o' t hk hf
        cases hz : sizeOfT C t with
        | none => rw [hz] at h; cases h
        | some z =>
          rw [hz] at h
          simp only at h
          split at h
          · cases h
          · rename_i h0
            cases h
            have h1 := hx x
            rw [hp] at h1
            exact Good.of rw (op_fieldAddr hti hs hk hf hz h0 h1)
      · cases h
    · cases h
  case field t x f =>
    split at h
    · rename_i i cs ht hp
      split at h
      · rename_i o' u hk hf
        cases hj : C.ti u with
        | none => rw [hj] at h; cases h
        | some j =>
          rw [hj] at h
          obtain ⟨z, hz, he⟩ := map_some h
          cases he
          have h1 := hx x
          rw [hp] at h1
          exact Good.of rw (op_field hti ht hk hf hj h1 hz)
      · cases h
    · cases h
  case indexAddr t x ix =>
    have h1 := hx x
    have h2 := hx ix
    split at h
    · rename_i i r v' off len sz k n ht hp hi
      rw [hp] at h1
      rw [hi] at h2
      split at h
      · rename_i z hk hz
        split at h
        · rename_i hc
          cases h
          exact Good.of rw (op_indexAddr_slice hti ht hk hz hc.1 hc.2.1 hc.2.2 h1 h2)
        · cases h
      · cases h
    · rename_i i r v' off k n ht hp hi
      rw [hp] at h1
      rw [hi] at h2
      split at h
      · rename_i z hk hz
        split at h
        · rename_i hc
          cases h
          exact Good.of rw (op_indexAddr_array hti ht hk hz hc.1 hc.2 h1 h2)
        · cases h
      · cases h
    · cases h
  case index t x ix =>
    have h1 := hx x
    have h2 := hx ix
    split at h
    · rename_i i s k n ht hp hi
      rw [hp] at h1
      rw [hi] at h2
      split at h
      · rename_i hk
        split at h
        · rename_i h0
          split at h
          · rename_i b hb
            cases h
            exact Good.of rw (op_index_string hti ht hk h0 hb h1 h2)
          · cases h
        · cases h
      · cases h
    · rename_i i cs k n ht hp hi
      rw [hp] at h1
      rw [hi] at h2
      split at h
      · rename_i j hk hj
        split at h
        · rename_i hc
          obtain ⟨z, hz, he⟩ := map_some h
          cases he
          exact Good.of rw (op_index_array hti ht hk hj hc.1 hc.2 h1 h2 hz)
        · cases h
      · cases h
    · cases h
  case typeAssert x xt T ok =>
    split at h
    · rename_i i t y ht hp
      split at h
      · cases h
      · rename_i hk
        split at h
        · rename_i e
          subst e
          cases h
          have h1 := hx x
          rw [hp] at h1
          exact Good.of rw (op_typeAssert hti ok ht (fun e => hk e) h1)
        · cases h
    · cases h
  case extract t ix =>
    split at h
    · rename_i vs hp
      split at h
      · rename_i y hy
        cases h
        have h1 := hx t
        rw [hp] at h1
        exact Good.of rw (op_extract hy h1)
      · cases h
    · cases h
  case call c =>
    obtain ⟨callee, args, ts⟩ := c
    cases callee <;> simp only at h <;> try (cases h; done)
    rename_i b
    show Good P (do let d ← resolve a.eval ⟨.builtin b, args, ts⟩ type; invoke d.target d.args) m w base v H'
    simp only [resolve, pure_bind, invoke]
    exact builtin_sound hti h (by simpa using opnds_ok fr args.toList) rw
end Go.Proofs.Ytnikdnchoahngaa.Am
