/- For every text and every byte: WordAsks answers true; no condition. -/
import Derived.Test.YtnikdnchoahngaaAskWordLib
namespace Go.Proofs.Ytnikdnchoahngaa.Pure
open Go Go.RowKit Go.Proofs.YtnikdnchoahngaaW.PrintWords Go.Proofs.Ytnikdnchoahngaa.Aid Go.Proofs.Ytnikdnchoahngaa.PWordAsks Go.Proofs.Ytnikdnchoahngaa.AskWordLib

theorem rletter_f (c : Int) : galleyref1_Letter.f c = some (decide (97 ≤ c ∧ c ≤ 122 ∨ 65 ≤ c ∧ c ≤ 90)) := by
  unfold galleyref1_Letter.f
  repeat' split
  all_goals (congr 1; rw [Bool.eq_iff_iff]; simp; try omega)
theorem rdigit_f (c : Int) : galleyref1_Digit.f c = some (decide (48 ≤ c ∧ c ≤ 57)) := by
  unfold galleyref1_Digit.f
  repeat' split
  all_goals (congr 1; rw [Bool.eq_iff_iff]; simp; try omega)
theorem rinner_f (c : Int) : galleyref1_Inner.f c = some (inn c) := by
  unfold galleyref1_Inner.f inn bg
  rw [rletter_f, Option.bind_some, rdigit_f, Option.bind_some]
  by_cases h1 : 97 ≤ c ∧ c ≤ 122
  · simp [h1]
  · by_cases h2 : 65 ≤ c ∧ c ≤ 90
    · simp [h1, h2]
    · by_cases h3 : c = 95
      · subst h3; simp
      · by_cases h4 : 48 ≤ c ∧ c ≤ 57
        · simp [h1, h2, h3, h4]
        · simp [h1, h2, h3, h4]; rfl
theorem rbegins_f (k : Nat) (c : Int) : galleyref1_Begins.f (k + 2) c = some (bg c) := by
  unfold galleyref1_Begins.f bg
  simp only [galleyref1_Begins.j0, galleyref1_Begins.j1, rdigit_f, Option.bind_some, ge_iff_le]
  by_cases a1 : 97 ≤ c <;> by_cases a2 : c ≤ 122 <;> by_cases a3 : 65 ≤ c <;> by_cases a4 : c ≤ 90 <;> by_cases a5 : c = 95 <;> by_cases a6 : 48 ≤ c <;> by_cases a7 : c ≤ 57 <;> first | (exfalso; omega) | simp [a1, a2, a3, a4, a5, a6, a7]
theorem rbegins_ev (c : Int) : Ev (fun k => galleyref1_Begins.f k c) (bg c) := by
  refine ⟨2, fun k hk => ?_⟩
  obtain ⟨m, rfl⟩ : ∃ m, k = m + 2 := ⟨k - 2, by omega⟩
  exact rbegins_f m c
theorem rres_l (s : ByteArray) (L : List ByteArray) (hL : L.length ≤ 4611686018427387904) (d : Nat) : ∀ i : Nat, i + d = L.length → Ev (fun k => galleyref1_Reserved.l0 k s L (i : Int)) (((L.drop i).map (·.toList)).contains s.toList) := by
  induction d with
  | zero =>
    intro i hi
    refine Ev.step (f := fun _ => some false) (fun k => ?_) ((evq (Ev.now false) ?_))
    · simp only [galleyref1_Reserved.l0]; rw [if_neg (by omega)]
    · rw [List.drop_eq_nil_of_le (by omega)]; rfl
  | succ d ih =>
    intro i hi
    have hlt : i < L.length := by omega
    refine Ev.step (f := fun k => if (L[i]).toList = s.toList then some true else galleyref1_Reserved.l0 k s L ((i + 1 : Nat) : Int)) (fun k => ?_) ?_
    · simp only [galleyref1_Reserved.l0]; rw [if_pos (by omega), if_pos (by omega), w64 (by omega) (by omega)]
      have e : rdOf ByteArray.empty L (i : Int) = L[i] := by unfold rdOf; simp [hlt]
      rw [e]; rfl
    · rw [List.drop_eq_getElem_cons hlt, List.map_cons, List.contains_cons]
      by_cases h : (L[i]).toList = s.toList
      · refine (evq (Ev.ite_pos h (Ev.now _)) ?_)
        rw [h]; simp
      · refine (evq (Ev.ite_neg h (ih (i + 1) (by omega))) ?_)
        rw [show (s.toList == (L[i]).toList) = false from beq_eq_false_iff_ne.2 (fun e => h e.symm)]; simp
theorem rres_ev (s : ByteArray) : Ev (fun k => galleyref1_Reserved.f k s) (resB s.toList) := by
  unfold galleyref1_Reserved.f
  refine (evq (rres_l s _ (by decide) 24 0 (by rfl)) ?_)
  simp only [List.drop_zero, List.map_cons, List.map_nil, ByteArray.toList_mk]
  rfl
theorem rplain_l (s : ByteArray) (hs : s.size ≤ 4611686018427387904) (d : Nat) : ∀ i : Nat, i + d = s.size → Ev (fun k => galleyref1_Plain.l0 k s (i : Int)) ((s.toList.drop i).all innB && !s.toList.isEmpty && decide (bg (bt s 0) = 1) && !resB s.toList) := by
  induction d with
  | zero =>
    intro i hi
    refine Ev.step (f := fun k => if s.toList = ([] : List UInt8) then (some false) else (if 0 < (s.size : Int) then ((galleyref1_Begins.f k (bt s 0)).bind fun t123 => (if t123 = 1 then ((galleyref1_Reserved.f k s).bind fun t124 => (some (!t124))) else (some false))) else (none))) (fun k => ?_) ?_
    · simp only [galleyref1_Plain.l0]; rw [if_neg (by omega)]
    · rw [List.drop_eq_nil_of_le (by rw [length_toList]; omega), List.all_nil]
      by_cases h0 : s.toList = []
      · refine (evq (Ev.ite_pos h0 (Ev.now _)) ?_)
        rw [h0]; rfl
      · have hz : 0 < s.size := by rw [← length_toList]; exact List.length_pos_iff.2 h0
        refine Ev.ite_neg h0 (Ev.ite_pos (by omega) (Ev.bind (rbegins_ev _) ?_))
        have he : s.toList.isEmpty = false := by simpa using h0
        rw [he]
        by_cases h1 : bg (bt s 0) = 1
        · refine (evq (Ev.ite_pos h1 (Ev.bind (rres_ev s) (Ev.now _))) ?_)
          simp [h1]
        · refine (evq (Ev.ite_neg h1 (Ev.now _)) ?_)
          simp [h1]
  | succ d ih =>
    intro i hi
    obtain ⟨c, hb, hd⟩ := bt_drop' s i (by omega)
    refine Ev.step (f := fun k => (galleyref1_Inner.f (bt s i)).bind fun t => if t = true then galleyref1_Plain.l0 k s (wrap64 ((i : Int) + 1)) else some false) (fun k => ?_) ?_
    · simp only [galleyref1_Plain.l0]; rw [if_pos (by omega), if_pos (by omega)]
    · refine Ev.bindc (rinner_f _) ?_
      rw [w64 (by omega) (by omega), hd, List.all_cons, hb]
      by_cases h : innB c = true
      · refine (evq (Ev.ite_pos h (ih (i + 1) (by omega))) ?_)
        rw [h]; simp
      · refine (evq (Ev.ite_neg h (Ev.now _)) ?_)
        simp only [Bool.not_eq_true] at h
        rw [h]; simp
theorem rplain_ev (s : ByteArray) (hs : s.size ≤ 4611686018427387904) : Ev (fun k => galleyref1_Plain.f k s) (plainL s.toList) := by
  unfold galleyref1_Plain.f
  refine (evq (rplain_l s hs s.size 0 (by omega)) ?_)
  by_cases hz : s.size = 0
  · have h0 : s.toList = [] := List.eq_nil_of_length_eq_zero (by rw [length_toList]; exact hz)
    rw [h0]; rfl
  · obtain ⟨c, hb, hd⟩ := bt_drop' s 0 (by omega)
    have hl : s.toList = c :: s.toList.drop 1 := by simpa using hd
    have hb' : bt s 0 = (c.toNat : Int) := hb
    have hp : plainL s.toList = (decide (bg (c.toNat : Int) = 1) && !resB s.toList && s.toList.all innB) := by
      rw [hl]; rfl
    have he : s.toList.isEmpty = false := by rw [hl]; rfl
    rw [hp, he, hb', List.drop_zero]
    simp only [Bool.not_false, Bool.and_true]
    cases s.toList.all innB <;> cases resB s.toList <;> simp

theorem WordAsks : galleylaw3_WordAsks.Pure := by
  intro s c hs hc
  refine Ev.rounds ?_
  unfold galleylaw3_WordAsks.f
  by_cases h : (s.size : Int) > 100
  · exact Ev.ite_pos h (Ev.bind told_ev (Ev.now _))
  · refine Ev.ite_neg h (Ev.bind told_ev (Ev.ite_pos rfl (Ev.bindc (reserved_f s) (Ev.bind (rres_ev s) (Ev.ite_pos (by simp) ?_)))))
    refine Ev.bind (plain_ev s (by omega)) (Ev.bind (rplain_ev s (by omega)) (Ev.ite_pos (by simp) ?_))
    refine Ev.bind (inner_ev c) (Ev.bindc (rinner_f c) (Ev.ite_pos (by simp) ?_))
    refine Ev.bind (begins_ev c) (Ev.bind (rbegins_ev c) ((evq (Ev.now _) (by simp))))
end Go.Proofs.Ytnikdnchoahngaa.Pure
