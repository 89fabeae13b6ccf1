/- Each operation of the abstract machine tells what Go's machine does. Second part: one law an operation. -/
import Derived.Test.YtnikdnchoahngaaAm5
set_option linter.unusedVariables false
set_option linter.unusedSimpArgs false
namespace Go.Proofs.Ytnikdnchoahngaa.Am
open Go

theorem wnew_eq (w : World) (o : Obj) : { w with heap := w.heap.push o } = wnew w o := rfl

theorem Good.alloc {P : Program} {s : Sem Next} {m : Mp} {H H' : Hp} {w : World} {base : Nat} {cells : List AV} {v : AV} (h : alloc1 H cells = some (v, H')) (rw : RW m H w base) (cs : Array Value) (ty : TypeId)
    (hrel : VRs m cells cs.toList) (hr : s.run P w = .ok (.value (.pointer (some ⟨w.heap.size, 0, none⟩))) (wnew w (.cells cs ty (0, 0)))) : Good P s m w base v H' := by
  have hl : cells.length = cs.size := by simpa using VRs.length hrel
  obtain ⟨rfl, m', h1, h2, h3⟩ := alloc1_ok h rw cs ty (0, 0) (free0 _) (by omega) (by rw [List.take_of_length_le (by simp; omega)]; exact hrel)
  refine ⟨m', _, h2, h3, .inl ⟨_, hr, ?_⟩⟩
  simp only [VR]
  exact ⟨_, _, h1, rfl⟩

theorem op_alloc {P : Program} {C : Cx} (hti : ∀ t i, C.ti t = some i → mkTi P t = some i) {m : Mp} {H H' : Hp} {w : World} {base : Nat} {t : Nat} {i : Ti} {z : List AV} {v : AV} (ht : C.ti t = some i) (hz : i.zero = some z) (h : alloc1 H z = some (v, H')) (rw : RW m H w base) :
    Good P (do pure (.value (← Instr.alloc t true (.tuple #[])))) m w base v H' := by
  obtain ⟨c, hc, rfl⟩ := ti_zero (hti _ _ ht) hz w
  refine Good.alloc h rw c.cells t (VRs_ofVal m _) ?_
  simp [Instr.alloc, hc, newVar, newRow, newObj, Sem.run, wnew]

theorem op_box {P : Program} {m : Mp} {H H' : Hp} {w : World} {base : Nat} {t : Nat} {x v : AV} {c : Value} (hx : x.is = true) (hv : VR m x c) (h : alloc1 H (cellsOf x) = some (v, H')) (rw : RW m H w base) :
    Good P (do pure (.value (← Instr.box t c))) m w base v H' := by
  refine Good.alloc h rw c.cells t (cellsOf_ok hv hx) ?_
  simp [Instr.box, newVar, newRow, newObj, Sem.run, wnew]

theorem mkVal_ok {m : Mp} {xs : List AV} {l : List Value} {agg : Bool} {x : AV} (h : mkVal agg xs = some x) (hv : VRs m xs l) : VR m x (if agg then .agg l.toArray else l.getD 0 undef) := by
  unfold mkVal at h
  cases agg with
  | true => simp at h; subst h; simp only [VR, if_true]; exact ⟨l.toArray, rfl, by simpa using hv⟩
  | false =>
    simp only [Bool.false_eq_true, if_false] at h ⊢
    match xs, h with
    | [y], h =>
      cases h
      simp only [VRs] at hv
      obtain ⟨c, cs, rfl, h1, rfl⟩ := hv
      exact h1

theorem op_load_run {P : Program} {C : Cx} (hti : ∀ t i, C.ti t = some i → mkTi P t = some i) {m : Mp} {H : Hp} {w : World} {base : Nat} {t : Nat} {i : Ti} {r v off : Nat} {c : Value} {xs : List AV} {x : AV} (ht : C.ti t = some i) (hp : VR m (.ptr r v off) c) (h : rd H r v off i.size = some xs) (hx : mkVal i.kind.isAgg xs = some x) (rw : RW m H w base) :
    ∃ d, (loadVar t (match c with | .pointer (some b) => b | _ => default)).run P w = .ok d w ∧ VR m x d := by
  simp only [VR] at hp
  obtain ⟨B, N, hm, rfl⟩ := hp
  obtain ⟨hl, l, hv, hc⟩ := rd_ok h rw hm
  have hll := VRs.len hv
  refine ⟨_, ?_, mkVal_ok hx hv⟩
  show (loadVar t ⟨B, off, none⟩).run P w = .ok (if i.kind.isAgg then .agg l.toArray else l.getD 0 undef) w
  unfold loadVar
  simp only [Sem.run_bind, ti_agg (hti _ _ ht) w, Result.andThen_ok]
  cases hk : i.kind.isAgg with
  | true =>
    simp only [if_true, Sem.run_bind, ti_size (hti _ _ ht) w, Result.andThen_ok]
    rw [show i.size = l.length by omega, loadCells_ok hc]
    rfl
  | false =>
    simp only [hk] at hx
    unfold mkVal at hx
    simp only [Bool.false_eq_true, if_false] at hx
    match xs, hx, hl, hll with
    | [y], hx, hl, hll =>
      match l, hll, hc with
      | [u], hll, hc =>
        have := hc 0 u rfl
        simp only [Nat.add_zero] at this
        simp [this]
theorem op_load {P : Program} {C : Cx} (hti : ∀ t i, C.ti t = some i → mkTi P t = some i) {m : Mp} {H : Hp} {w : World} {base : Nat} {t : Nat} {i : Ti} {r v off : Nat} {c : Value} {xs : List AV} {x : AV} (ht : C.ti t = some i) (hp : VR m (.ptr r v off) c) (h : rd H r v off i.size = some xs) (hx : mkVal i.kind.isAgg xs = some x) (rw : RW m H w base) :
    Good P (do pure (.value (← Instr.loadAt t c))) m w base x H := by
  simp only [VR] at hp
  obtain ⟨B, N, hm, rfl⟩ := hp
  obtain ⟨hl, l, hv, hc⟩ := rd_ok h rw hm
  have hll := VRs.len hv
  refine Good.val _ ?_ rw (mkVal_ok hx hv)
  have hload : (loadVar t ⟨B, off, none⟩).run P w = .ok (if i.kind.isAgg then .agg l.toArray else l.getD 0 undef) w := by
    unfold loadVar
    simp only [Sem.run_bind, ti_agg (hti _ _ ht) w, Result.andThen_ok]
    cases hk : i.kind.isAgg with
    | true =>
      simp only [if_true, Sem.run_bind, ti_size (hti _ _ ht) w, Result.andThen_ok]
      rw [show i.size = l.length by omega, loadCells_ok hc]
      rfl
    | false =>
      simp only [hk] at hx
      unfold mkVal at hx
      simp only [Bool.false_eq_true, if_false] at hx
      match xs, hx, hl, hll with
      | [y], hx, hl, hll =>
        match l, hll, hc with
        | [u], hll, hc =>
          have := hc 0 u rfl
          simp only [Nat.add_zero] at this
          simp [this]
  simp [Instr.loadAt, Instr.sureAddr, hload]

theorem op_store {P : Program} {C : Cx} (hti : ∀ t i, C.ti t = some i → mkTi P t = some i) {m : Mp} {H H' : Hp} {w : World} {base : Nat} {t : Nat} {i : Ti} {r v off : Nat} {c d : Value} {x : AV} (ht : C.ti t = some i) (hp : VR m (.ptr r v off) c) (hv : VR m x d) (hx : x.is = true) (hl : (cellsOf x).length = i.size)
    (h : wr H r v off (cellsOf x) = some H') (rw : RW m H w base) :
    Good P (do Instr.storeAt t c d; pure .skip) m w base .top H' := by
  simp only [VR] at hp
  obtain ⟨B, N, hm, rfl⟩ := hp
  have hcs := cellsOf_ok hv hx
  obtain ⟨w', h1, h2, h3⟩ := wr_ok (P := P) h rw hm hcs
  refine ⟨m, w', h2, h3, .inr ⟨?_, rfl⟩⟩
  have hlen : d.cells.size = i.size := by have := VRs.len hcs; simp at this; omega
  simp [Instr.storeAt, Instr.sureAddr, storeVar, ti_size (hti _ _ ht) w, hlen, h1]

theorem fwrap_eq (k : IntKind) (n : Int) : fwrap k n = k.wrap n := by
  unfold fwrap
  split
  · rename_i h
    simp only [Bool.and_eq_true, decide_eq_true_eq] at h
    obtain ⟨h1, h2⟩ := h
    cases k <;> simp only [lo, hi] at h1 h2 <;> simp [IntKind.wrap, IntKind.bits, IntKind.signed] <;> (try split) <;> omega
  · rfl

theorem op_intBin {P : Program} {m : Mp} {w : World} {t : Nat} {op : BinOp} {k : IntKind} {a b : Int} {v : AV} (h : intBin op k a b = some v) : ∃ c, (binOp op t (.int k a) (.int k b)).run P w = .ok c w ∧ VR m v c := by
  cases op
  case quo =>
    simp only [intBin, fwrap_eq] at h
    by_cases hb : b = 0
    · rw [if_pos hb] at h; cases h
    · rw [if_neg hb] at h; cases h
      exact ⟨.int k (k.wrap (a.tdiv b)), by simp [binOp, Op.intDiv, hb], by simp [VR]⟩
  case rem =>
    simp only [intBin] at h
    by_cases hb : b = 0
    · rw [if_pos hb] at h; cases h
    · rw [if_neg hb] at h; cases h
      exact ⟨.int k (a.tmod b), by simp [binOp, Op.intDiv, hb], by simp [VR]⟩
  case eql => simp only [intBin] at h; cases h; exact ⟨.bool (a == b), by simp [binOp, Op.intCmp], by simp only [VR]; rfl⟩
  case neq => simp only [intBin] at h; cases h; exact ⟨.bool (a != b), by simp [binOp, Op.intCmp], by simp only [VR]; rfl⟩
  case add => simp only [intBin, fwrap_eq] at h; cases h; exact ⟨.int k (k.wrap (a + b)), by simp [binOp, Op.intArith, Op.intBits, Op.intCmp], by simp only [VR]⟩
  case sub => simp only [intBin, fwrap_eq] at h; cases h; exact ⟨.int k (k.wrap (a - b)), by simp [binOp, Op.intArith, Op.intBits, Op.intCmp], by simp only [VR]⟩
  case mul => simp only [intBin, fwrap_eq] at h; cases h; exact ⟨.int k (k.wrap (a * b)), by simp [binOp, Op.intArith, Op.intBits, Op.intCmp], by simp only [VR]⟩
  case and => simp only [intBin, fwrap_eq] at h; cases h; exact ⟨.int k (k.wrap (BitVec.ofInt k.bits a &&& BitVec.ofInt k.bits b).toNat), by simp [binOp, Op.intArith, Op.intBits, Op.intCmp], by simp only [VR]⟩
  case or => simp only [intBin, fwrap_eq] at h; cases h; exact ⟨.int k (k.wrap (BitVec.ofInt k.bits a ||| BitVec.ofInt k.bits b).toNat), by simp [binOp, Op.intArith, Op.intBits, Op.intCmp], by simp only [VR]⟩
  case xor => simp only [intBin, fwrap_eq] at h; cases h; exact ⟨.int k (k.wrap (BitVec.ofInt k.bits a ^^^ BitVec.ofInt k.bits b).toNat), by simp [binOp, Op.intArith, Op.intBits, Op.intCmp], by simp only [VR]⟩
  case andNot => simp only [intBin, fwrap_eq] at h; cases h; exact ⟨.int k (k.wrap (BitVec.ofInt k.bits a &&& ~~~ BitVec.ofInt k.bits b).toNat), by simp [binOp, Op.intArith, Op.intBits, Op.intCmp], by simp only [VR]⟩
  case lss => simp only [intBin, fwrap_eq] at h; cases h; exact ⟨.bool (decide (a < b)), by simp [binOp, Op.intArith, Op.intBits, Op.intCmp], by simp only [VR]⟩
  case leq => simp only [intBin, fwrap_eq] at h; cases h; exact ⟨.bool (decide (a ≤ b)), by simp [binOp, Op.intArith, Op.intBits, Op.intCmp], by simp only [VR]⟩
  case gtr => simp only [intBin, fwrap_eq] at h; cases h; exact ⟨.bool (decide (b < a)), by simp [binOp, Op.intArith, Op.intBits, Op.intCmp], by simp only [VR]⟩
  case geq => simp only [intBin, fwrap_eq] at h; cases h; exact ⟨.bool (decide (b ≤ a)), by simp [binOp, Op.intArith, Op.intBits, Op.intCmp], by simp only [VR]⟩
  all_goals (simp only [intBin] at h; cases h)

theorem eqL_iff : ∀ (x y : List Nat), eqL x y = true ↔ x = y
  | [], [] => by simp [eqL]
  | [], b :: y => by simp [eqL]
  | a :: x, [] => by simp [eqL]
  | a :: x, b :: y => by simp [eqL, eqL_iff x y]
theorem lessL_eq : ∀ (x y : List UInt8), lessL (x.map (·.toNat)) (y.map (·.toNat)) = Op.bytesLess x y
  | [], [] => by simp [lessL, Op.bytesLess]
  | [], b :: y => by simp [lessL, Op.bytesLess]
  | a :: x, [] => by simp [lessL, Op.bytesLess]
  | a :: x, b :: y => by
    simp only [List.map_cons, lessL, Op.bytesLess, lessL_eq x y]
    congr 1
    · rw [Bool.eq_iff_iff]; simp [UInt8.lt_iff_toNat_lt]
    · congr 1
      rw [Bool.eq_iff_iff]; simp [← UInt8.toNat_inj]
theorem eqL_eq (x y : List UInt8) : eqL (x.map (·.toNat)) (y.map (·.toNat)) = (x == y) := by
  rw [Bool.eq_iff_iff, eqL_iff, beq_iff_eq]
  exact ⟨fun h => List.map_inj_right (fun a b e => UInt8.toNat_inj.1 e) |>.1 h, fun h => by rw [h]⟩
theorem op_strBin {P : Program} {m : Mp} {w : World} {t : Nat} {op : BinOp} {a b : ByteArray} {v : AV} (h : strBin op (a.data.toList.map (·.toNat)) (b.data.toList.map (·.toNat)) = some v) : ∃ c, (binOp op t (.string a) (.string b)).run P w = .ok c w ∧ VR m v c := by
  cases op <;> simp only [strBin, eqL_eq, lessL_eq] at h <;> try (cases h; done)
  case add =>
    split at h
    · rename_i hl
      cases h
      have hs : ¬ ((a.size + b.size : Nat) : Int) > IntKind.i64.max := by
        simp only [List.length_map] at hl
        have h1 : a.data.toList.length = a.size := rfl
        have h2 : b.data.toList.length = b.size := rfl
        rw [h1, h2] at hl
        simp [IntKind.max, IntKind.signed, IntKind.bits]
        omega
      refine ⟨.string (a ++ b), ?_, ?_⟩
      · simp only [binOp, Op.stringOp]
        rw [if_neg hs]
        rfl
      · simp only [VR]
        exact ⟨_, rfl, by simp⟩
    · cases h
  case eql => cases h; exact ⟨.bool (a.data.toList == b.data.toList), by simp [binOp, Op.stringOp, ByteArray.toList_eq], by simp only [VR]⟩
  case neq => cases h; exact ⟨.bool (!(a.data.toList == b.data.toList)), by simp [binOp, Op.stringOp, ByteArray.toList_eq], by simp only [VR]⟩
  case lss => cases h; exact ⟨.bool (Op.bytesLess a.data.toList b.data.toList), by simp [binOp, Op.stringOp, ByteArray.toList_eq], by simp only [VR]⟩
  case leq => cases h; exact ⟨.bool (Op.bytesLess a.data.toList b.data.toList || a.data.toList == b.data.toList), by simp [binOp, Op.stringOp, ByteArray.toList_eq], by simp only [VR]⟩
  case gtr => cases h; exact ⟨.bool (!(Op.bytesLess a.data.toList b.data.toList || a.data.toList == b.data.toList)), by simp [binOp, Op.stringOp, ByteArray.toList_eq], by simp only [VR]⟩
  case geq => cases h; exact ⟨.bool (!Op.bytesLess a.data.toList b.data.toList), by simp [binOp, Op.stringOp, ByteArray.toList_eq], by simp only [VR]⟩
end Go.Proofs.Ytnikdnchoahngaa.Am
