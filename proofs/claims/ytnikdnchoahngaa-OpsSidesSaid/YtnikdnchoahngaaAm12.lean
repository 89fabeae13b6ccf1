/- Each operation of the abstract machine tells what Go's machine does. Eighth part: append and copy. -/
import Derived.Test.YtnikdnchoahngaaAm11
import Derived.Deep.AppendSrc
set_option linter.unusedVariables false
set_option linter.unusedSimpArgs false
namespace Go.Proofs.Ytnikdnchoahngaa.Am
open Go

theorem rd_drew {m : Mp} {H : Hp} {w : World} {base : Nat} (rw : RW m H w base) : RW m H w.drew base := rw.drawn _
theorem src_ok {P : Program} {m : Mp} {H : Hp} {w : World} {base : Nat} {x : AV} {c : Value} {sz n u : Nat} {new : List AV} (hl : srcLen x = some n) (hs : srcCells H sz n x = some new) (h1 : new.all one1 = true) (hx : VR m x c) (rw : RW m H w base)
    (hk : (∃ e', P.underlying u = some (.slice e')) ∨ P.underlying u = some .string) : ∃ news, VRs m new news ∧ Src P sz u c n news w := by
  cases x <;> simp only [srcLen] at hl <;> try (cases hl; done)
  case nils =>
    cases hl
    simp only [srcCells] at hs
    cases hs
    simp only [VR] at hx
    subst hx
    exact ⟨[], by simp [VRs], ⟨hk, fun _ => rfl, run_firstCells_none w sz 0 0 0, run_firstCells_none w.drew sz 0 0 0, by simp, fun _ h => by cases h⟩⟩
  case slice r v off len z =>
    cases hl
    simp only [srcCells] at hs
    split at hs
    · rename_i hc
      simp only [VR] at hx
      obtain ⟨B, N, cap, hm, _, _, _, rfl⟩ := hx
      obtain ⟨hn, news, hv, hcell⟩ := rd_ok hs rw hm
      have hlen := VRs.len hv
      refine ⟨news, hv, ⟨hk, fun _ => rfl, ?_, ?_, by omega, one1s_ok hv h1⟩⟩
      · exact run_firstCells_some w sz n ⟨B, off, none⟩ n cap news (by omega) (fun j u hj => by rw [addr_add]; exact hcell j u hj)
      · exact run_firstCells_some w.drew sz n ⟨B, off, none⟩ n cap news (by omega) (fun j u hj => by rw [addr_add]; exact hcell j u hj)
    · cases hs
  case str s =>
    cases hl
    simp only [srcCells] at hs
    split at hs
    · rename_i hc
      cases hs
      simp only [VR] at hx
      obtain ⟨t, rfl, rfl⟩ := hx
      obtain ⟨rfl, _⟩ := hc
      have hsz : (t.data.toList.map (·.toNat)).length = t.size := by simp
      rw [hsz]
      have key : ∀ l : List UInt8, VRs m (l.map fun b => AV.int .u8 (b.toNat : Int)) (l.map fun b => Value.int .u8 b.toNat) := by
        intro l
        induction l with
        | nil => simp [VRs]
        | cons b l ih => simp only [List.map_cons, VRs, VR]; exact ⟨_, _, rfl, rfl, ih⟩
      refine ⟨byteCells t, ?_, ⟨hk, fun _ => rfl, firstCells_string t w, firstCells_string t w.drew, by rw [byteCells_length, Nat.mul_one], fun u hu => by
        obtain ⟨_, _, rfl⟩ := List.mem_map.1 hu
        rfl⟩⟩
      rw [List.take_of_length_le (by rw [hsz]; exact Nat.le_refl _), List.map_map]
      exact key _
    · cases hs
theorem appendGood {P : Program} {C : Cx} (hti : ∀ t i, C.ti t = some i → mkTi P t = some i) {m : Mp} {H H' : Hp} {w : World} {base : Nat} {t u n ty : Nat} {i e : Ti} {z : List AV} {s x v : AV} {cs cx : Value} {new : List AV} (ht : C.ti t = some i) (hk : i.kind = .slice) (he : C.ti i.elem = some e) (hz : e.zero = some z) (hzl : z.length = e.size)
    (hku : (∃ e', P.underlying u = some (.slice e')) ∨ P.underlying u = some .string) (hl : srcLen x = some n) (hsrc : srcCells H e.size n x = some new) (h : appV H s e.size e.bytes n new = some (v, H')) (hs : VR m s cs) (hx : VR m x cx) (rw : RW m H w base) :
    Good P (do pure (.value (← Builtin.append_ #[t, u] ty #[cs, cx]))) m w base v H' := by
  unfold appV at h
  split at h
  case isFalse => cases h
  case isTrue hc =>
  obtain ⟨hnl, hsz, hone⟩ := hc
  obtain ⟨news, hv, hS⟩ := src_ok (P := P) (u := u) hl hsrc hone hx rw hku
  have hu := ti_slice (hti _ _ ht) hk
  obtain ⟨j, d, hj, _, hjs, hjb, hjz, _⟩ := mkTi_spec (hti _ _ he)
  rw [hz] at hjz
  cases hjz0 : j.zero with
  | none => rw [hjz0] at hjz; cases hjz
  | some zc =>
  have hzs : zc.cells.size = j.size := by
    rw [hjz0] at hjz
    have := congrArg (Option.map List.length) hjz
    simp at this
    omega
  have hnews := VRs.len hv
  rw [hjs] at hS
  split at h
  · simp only [VR] at hs
    subst hs
    split at h
    · rename_i hn0
      subst hn0
      cases h
      have : news = [] := by
        cases news with
        | nil => rfl
        | cons => simp at hnews; omega
      subst this
      refine Good.val (.slice none 0 0) ?_ rw (by simp only [VR])
      rcases hS.kind with ⟨e', hk'⟩ | hk' <;> simp [Builtin.append_, run_underlying hu, run_underlying hk', sizeOf, typeInfo, hj, hS.len, hS.cells]
    · rename_i hn0
      split at h
      · rename_i hb
        obtain ⟨hb1, hb2, hb3⟩ := hb
        cases h
        have hr := run_append_grow_src (P := P) w t u ty i.elem j zc hu hj hjz0 none 0 0 [] (run_firstCells_none w.drew j.size 0 0 0) cx n news hS (by omega) (by omega) (growslice_fits (by omega) (by rw [← hjb]; simp; omega))
        simp only [Nat.zero_add, List.nil_append] at hr
        have hge := grownCap_ge w n 0 i.elem
        have hcs : (news.toArray ++ Builtin.zeroCells zc.cells (grownCap w n 0 i.elem - n)).size = grownCap w n 0 i.elem * e.size := by
          simp only [Array.size_append, List.size_toArray, size_zeroCells, hzs, hS.newsLen, ← Nat.add_mul, hjs]
          congr 1
          omega
        have hN : n * e.size ≤ grownCap w n 0 i.elem * e.size := Nat.mul_le_mul_right _ hge
        obtain ⟨q2, q3⟩ := (rd_drew rw).alloc hb3 new (news.toArray ++ Builtin.zeroCells zc.cells (grownCap w n 0 i.elem - n)) i.elem (0, 0) (free0 _) (by omega) (by
          rw [Array.toList_append, List.take_append_of_le_length (by simp; omega), List.take_of_length_le (by simp; omega)]
          exact hv)
        refine ⟨_, _, q2, St.trans rw.base_le (St.drawn m w base _) q3, .inl ⟨_, by rw [Sem.run_bind, hr]; rfl, ?_⟩⟩
        simp only [VR]
        exact ⟨w.heap.size, _, grownCap w n 0 i.elem, Mp.add_same _ _ _ _, by omega, hge, by rw [hcs]; omega, rfl⟩
      · cases h
  · rename_i r v0 off len z0
    split at h
    case isFalse => cases h
    case isTrue hc =>
    obtain ⟨rfl, rfl, rfl, hb1, hb2⟩ := hc
    split at h
    · rename_i hn0
      subst hn0
      cases h
      have hnil : news = [] := by
        cases news with
        | nil => rfl
        | cons => simp at hnews; omega
      subst hnil
      have hs0 := hs
      simp only [VR] at hs
      obtain ⟨B, N, cap, hm, g1, g2, g3, rfl⟩ := hs
      refine Good.val (.slice (some ⟨B, 0, none⟩) len cap) ?_ rw hs0
      rcases hS.kind with ⟨e', hk'⟩ | hk' <;> simp [Builtin.append_, run_underlying hu, run_underlying hk', sizeOf, typeInfo, hj, hS.len, hS.cells, g2, storeCells]
    · rename_i hn0
      cases hb : H.t.get r with
      | none => rw [hb] at h; cases h
      | some b =>
        rw [hb] at h
        simp only at h
        split at h
        case isFalse => cases h
        case isTrue hc =>
        obtain ⟨hro, hvl, hmin⟩ := hc
        cases h
        simp only [VR] at hs
        obtain ⟨B, N, cap, hm, g1, g2, g3, rfl⟩ := hs
        rw [hvl] at hm hmin
        obtain ⟨b0, hb0, hv0, hBs, hbase⟩ := rw.dom _ _ _ _ hm
        rw [hb] at hb0
        cases hb0
        obtain ⟨cs, ty1, fr1, hc1, hs1, hN1, hf1, hr1⟩ := rw.blk _ _ _ _ _ hb hm hmin (Nat.le_refl _)
        have hnew0 : 0 < new.length := by rw [hnl]; exact Nat.mul_pos (by omega) hsz
        have hlenN : news.length = n * e.size := by rw [hS.newsLen, hjs]
        have hrt := hr1
        rw [List.take_of_length_le (Nat.le_refl _)] at hr1
        by_cases hroom : len + n ≤ cap
        · have hle : (len + n) * e.size ≤ cap * e.size := Nat.mul_le_mul_right _ hroom
          rw [Nat.add_mul] at hle
          have hst := run_storeCells_wset P B (len * e.size) ty1 fr1 news 0 cs w hc1 (by omega) (by rw [hs1]; exact hf1 hro) hS.one
          have hne : news ≠ [] := by intro e0; subst e0; simp at hnews; omega
          rw [if_neg hne, Nat.add_zero] at hst
          have hold : (putA cs (len * e.size) news).toList.take b.cells.length = cs.toList.take b.cells.length := putA_take cs b.cells.length news (len * e.size) (by omega)
          obtain ⟨q2, q3⟩ := rw.extend hb hro hm hmin hc1 (cs' := putA cs (len * e.size) news) (putA_size _ _ _) new hnew0 (by omega) hold (by
            have e1 : (putA cs (len * e.size) news).toList.take (b.cells.length + new.length) = cs.toList.take b.cells.length ++ news := by
              rw [hvl, show new.length = news.length by omega]
              exact putA_take_put cs news b.cells.length (by omega)
            rw [e1]
            exact VRs.append hr1 hv)
          refine ⟨_, _, q2, q3, .inl ⟨.slice (some ⟨B, 0, none⟩) (len + n) cap, ?_, ?_⟩⟩
          · have hS' := hS
            rw [← hjs] at hS'
            rcases hS.kind with ⟨e', hk'⟩ | hk' <;> simp [Builtin.append_, run_underlying hu, run_underlying hk', sizeOf, typeInfo, hj, ← hjs, hS'.len, hroom, hS'.cells, addr_add, hst]
          · simp only [VR]
            refine ⟨B, N, cap, ?_, by rw [Nat.add_mul]; omega, by omega, g3, rfl⟩
            rw [hvl]
            exact Mp.add_same _ _ _ _
        · have hold : (Builtin.firstCells j.size len (.slice (some ⟨B, 0, none⟩) len cap)).run P w.drew = .ok (cs.toList.take b.cells.length).toArray w.drew := by
            refine run_firstCells_some w.drew j.size len ⟨B, 0, none⟩ len cap _ ?_ ?_
            · rw [List.length_take, Array.length_toList, ← hjs]; omega
            · intro q y hq
              rw [addr_add, cell_of w.drew B _ cs ty1 fr1 hc1]
              rw [List.getElem?_take] at hq
              split at hq
              · simpa using hq
              · cases hq
          have hr := run_append_grow_src (P := P) w t u ty i.elem j zc hu hj hjz0 (some ⟨B, 0, none⟩) len cap (cs.toList.take b.cells.length) hold cx n news hS (by omega) (by omega) (growslice_fits (by omega) (by rw [← hjb]; omega))
          have hge := grownCap_ge w (len + n) cap i.elem
          have hN : (len + n) * e.size ≤ grownCap w (len + n) cap i.elem * e.size := Nat.mul_le_mul_right _ hge
          have htk : (cs.toList.take b.cells.length).length = len * e.size := by rw [List.length_take, Array.length_toList]; omega
          have hcs : ((cs.toList.take b.cells.length ++ news).toArray ++ Builtin.zeroCells zc.cells (grownCap w (len + n) cap i.elem - (len + n))).size = grownCap w (len + n) cap i.elem * e.size := by
            simp only [Array.size_append, List.size_toArray, List.length_append, htk, size_zeroCells, hzs, hlenN, ← hjs, ← Nat.add_mul]
            congr 1
            omega
          rw [Nat.add_mul] at hN
          obtain ⟨q2, q3⟩ := (rd_drew rw).regrow hb hro new hnew0 ((cs.toList.take b.cells.length ++ news).toArray ++ Builtin.zeroCells zc.cells (grownCap w (len + n) cap i.elem - (len + n))) i.elem (by omega) (by
            rw [Array.toList_append, List.take_append_of_le_length (by simp only [List.length_append, htk]; omega), List.take_of_length_le (by simp only [List.length_append, htk]; omega)]
            exact VRs.append hr1 hv)
          refine ⟨_, _, q2, St.trans rw.base_le (St.drawn m w base _) q3, .inl ⟨_, by rw [Sem.run_bind, hr]; rfl, ?_⟩⟩
          simp only [VR]
          rw [hvl]
          exact ⟨w.heap.size, _, grownCap w (len + n) cap i.elem, Mp.add_same _ _ _ _, by rw [Nat.add_mul]; omega, hge, by rw [hcs]; omega, rfl⟩
  · cases h
theorem copyGood {P : Program} {C : Cx} (hti : ∀ t i, C.ti t = some i → mkTi P t = some i) {m : Mp} {H H' : Hp} {w : World} {base : Nat} {t ty sl r v off len : Nat} {ts : Array TypeId} {i e : Ti} {x y : AV} {cd cx : Value} {cs : List AV} (ht : C.ti t = some i) (h0 : ts[0]? = some t) (hk : i.kind = .slice) (he : C.ti i.elem = some e) (hl : srcLen x = some sl)
    (hsrc : srcCells H e.size (min sl len) x = some cs) (hw : (if cs.length = 0 then (if min sl len = 0 then some (AV.int .i64 0, H) else none) else match wr H r v off cs with | some H' => some (.int .i64 (min sl len : Nat), H') | none => none) = some (y, H'))
    (hd : VR m (.slice r v off len e.size) cd) (hx : VR m x cx) (rw : RW m H w base) : Good P (do pure (.value (← Builtin.copy_ ts ty #[cd, cx]))) m w base y H' := by
  have hu := ti_slice (hti _ _ ht) hk
  have hsz := ti_size (hti _ _ he) w
  simp only [VR] at hd
  obtain ⟨B, N, cap, hm, _, _, _, rfl⟩ := hd
  -- what is read
  have key : ∃ us, VRs m cs us ∧ (Builtin.lenOf cx).run P w = .ok sl w ∧ (Builtin.firstCells e.size (min sl len) cx).run P w = .ok us.toArray w := by
    cases x <;> simp only [srcLen] at hl <;> try (cases hl; done)
    case nils =>
      cases hl
      simp only [VR] at hx
      subst hx
      simp only [srcCells, Nat.zero_min, if_true] at hsrc
      cases hsrc
      exact ⟨[], by simp [VRs], rfl, rfl⟩
    case slice r' v' off' len' z' =>
      cases hl
      simp only [srcCells] at hsrc
      split at hsrc
      · rename_i hc
        simp only [VR] at hx
        obtain ⟨B', N', cap', hm', _, _, _, rfl⟩ := hx
        obtain ⟨hn, us, hv, hcell⟩ := rd_ok hsrc rw hm'
        have hlen := VRs.len hv
        refine ⟨us, hv, rfl, ?_⟩
        have := loadCells_ok (P := P) hcell
        rw [show us.length = min sl len * e.size by omega] at this
        exact this
      · cases hsrc
    case str s =>
      cases hl
      simp only [srcCells] at hsrc
      split at hsrc
      · rename_i hc
        cases hsrc
        simp only [VR] at hx
        obtain ⟨q, rfl, rfl⟩ := hx
        have key : ∀ l : List UInt8, VRs m (l.map fun b => AV.int .u8 (b.toNat : Int)) (l.map fun b => Value.int .u8 b.toNat) := by
          intro l
          induction l with
          | nil => simp [VRs]
          | cons b l ih => simp only [List.map_cons, VRs, VR]; exact ⟨_, _, rfl, rfl, ih⟩
        refine ⟨(q.data.toList.take (min (q.data.toList.map (·.toNat)).length len)).map fun b => Value.int .u8 b.toNat, ?_, by simp [Builtin.lenOf], ?_⟩
        · rw [← List.map_take, List.map_map]
          exact key _
        · simp only [Builtin.firstCells, Sem.run_pure]
          congr 1
          apply Array.ext'
          rw [Array.toList_map, ByteArray.data_extract, Array.toList_extract]
          simp [List.extract]
      · cases hsrc
  obtain ⟨us, hv, e1, e2⟩ := key
  have hmin : Nat.min sl len = min sl len := rfl
  split at hw
  · rename_i h00
    split at hw
    case isFalse => cases hw
    rename_i hcn
    cases hw
    have hus : us = [] := by
      have := VRs.len hv
      cases us with
      | nil => rfl
      | cons => simp at this; omega
    subst hus
    refine Good.val (.int .i64 0) ?_ rw (by simp only [VR])
    have hm0 := hcn
    rw [hm0] at e2
    simp [Builtin.copy_, h0, run_underlying hu, e1, hsz, hmin, e2, storeCells, goInt, hm0]
  · cases hwr : wr H r v off cs with
    | none => rw [hwr] at hw; cases hw
    | some H1 =>
      rw [hwr] at hw
      cases hw
      obtain ⟨w', q1, q2, q3⟩ := wr_ok (P := P) hwr rw hm hv
      refine ⟨m, w', q2, q3, .inl ⟨.int .i64 (min sl len : Nat), ?_, by simp only [VR]⟩⟩
      simp [Builtin.copy_, h0, run_underlying hu, e1, hsz, hmin, e2, q1, goInt]
end Go.Proofs.Ytnikdnchoahngaa.Am
