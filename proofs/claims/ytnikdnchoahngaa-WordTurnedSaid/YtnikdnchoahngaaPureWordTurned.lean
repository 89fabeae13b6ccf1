/- For every number and every byte: WordTurned answers true; no condition. -/
import Derived.Test.YtnikdnchoahngaaTurnWordLib
namespace Go.Proofs.Ytnikdnchoahngaa.Pure
open Go Go.RowKit Go.Proofs.YtnikdnchoahngaaW.PrintWords Go.Proofs.Ytnikdnchoahngaa.Aid Go.Proofs.Ytnikdnchoahngaa.PWordTurned Go.Proofs.Ytnikdnchoahngaa.TurnWordLib

def wordAt (m : Nat) : List UInt8 := resL.getD m []
/-- The words, one by one, with each letter behind them. -/
theorem turned_words : ∀ m : Fin 24, resB (wordAt m) = true ∧ plainL (wordAt m) = false ∧ resB (wordAt m ++ [95]) = false ∧ resB ((wordAt m).dropLast) = false ∧ (wordAt m).length < 100 ∧ 0 < (wordAt m).length ∧ ((wordAt m) == [111, 114, 120]) = false := by
  decide +kernel
theorem turned_letters : ∀ m : Fin 24, ∀ d : Fin 26, resB (wordAt m ++ [UInt8.ofNat (97 + d.val)]) = false ∧ plainL (wordAt m ++ [UInt8.ofNat (97 + d.val)]) = true := by
  decide +kernel
def wl : List ByteArray := resL.map fun l => ⟨l.toArray⟩
theorem wl_at (m : Fin 24) : (rdOf ByteArray.empty wl ((m.val : Nat) : Int)).toList = wordAt m := by
  have h : rdOf ByteArray.empty wl ((m.val : Nat) : Int) = ⟨(wordAt m).toArray⟩ := by
    have hm := m.isLt
    have hl : m.val < resL.length := hm
    unfold rdOf wl wordAt
    simp only [Int.toNat_natCast]
    rw [List.getD_eq_getElem?_getD, List.getD_eq_getElem?_getD, List.getElem?_map, List.getElem?_eq_getElem hl]
    rfl
  rw [h, ByteArray.toList_mk]
theorem strOf_one (x : Int) : (strOfNums [x]).toList = [UInt8.ofNat x.toNat] := by
  rw [strOf_toList]; rfl
theorem size_one (x : Int) : (strOfNums [x]).size = 1 := by rw [← length_toList, strOf_one]; rfl

theorem WordTurned : galleylaw3_WordTurned.Pure := by
  intro a c ha hc
  refine Ev.rounds ?_
  unfold galleylaw3_WordTurned.f
  refine Ev.bindc (x := wl) rfl ?_
  have hu : IntKind.u64.wrap ((wl.length : Nat) : Int) = 24 := rfl
  rw [hu]
  have hk : 0 ≤ IntKind.u64.wrap a := by simp [IntKind.wrap, IntKind.bits, IntKind.signed]; omega
  have hk2 : IntKind.u64.wrap a < 18446744073709551616 := by simp [IntKind.wrap, IntKind.bits, IntKind.signed]; omega
  generalize IntKind.u64.wrap a = u at hk hk2
  obtain ⟨m, hm⟩ : ∃ m : Fin 24, wrap64 (Int.tmod u 24) = ((m.val : Nat) : Int) := by
    refine ⟨⟨(u % 24).toNat, by omega⟩, ?_⟩
    rw [Int.tmod_eq_emod_of_nonneg hk, w64 (by omega) (by omega)]
    simp; omega
  rw [hm]
  have h8 : 0 ≤ c ∧ c ≤ 255 := wf8 hc
  obtain ⟨d, hd⟩ : ∃ d : Fin 26, (97 + Int.tmod c 26) % 256 = ((97 + d.val : Nat) : Int) := by
    refine ⟨⟨(c % 26).toNat, by omega⟩, ?_⟩
    rw [Int.tmod_eq_emod_of_nonneg h8.1]
    simp; omega
  rw [hd]
  have hw := wl_at m
  obtain ⟨t1, t2, t3, t4, t5, t6, t7⟩ := turned_words m
  obtain ⟨l1, l2⟩ := turned_letters m d
  generalize rdOf ByteArray.empty wl ((m.val : Nat) : Int) = w at hw
  have hsz : w.size = (wordAt m).length := by rw [← length_toList, hw]
  have hone := strOf_one ((97 + d.val : Nat) : Int)
  have hlen : (wl.length : Int) = 24 := rfl
  have hmm := m.isLt
  refine Ev.ite_neg (by decide) (Ev.ite_pos (by omega) (Ev.ite_pos (by rw [hlen]; omega) (Ev.bindc rfl (Ev.ite_pos (by rw [size_one]; omega) (Ev.bind told_ev (Ev.ite_pos rfl ?_))))))
  refine Ev.bindc (reserved_f _) (Ev.ite_pos (by rw [hw]; exact t1) ?_)
  refine Ev.bind (plain_ev _ (by omega)) (Ev.ite_neg (by rw [hw, t2]; decide) ?_)
  refine Ev.bindc (reserved_f _) (Ev.ite_neg (by rw [toList_append, hw, hone]; simp only [Int.toNat_natCast]; rw [l1]; decide) ?_)
  refine Ev.bind (plain_ev _ (by rw [← length_toList, toList_append, hw, hone]; simp; omega)) (Ev.ite_pos (by rw [toList_append, hw, hone]; exact l2) ?_)
  refine Ev.ite_pos (by omega) ?_
  refine Ev.bindc (reserved_f _) (Ev.ite_neg (by rw [toList_append, hw, ByteArray.toList_mk, t3]; decide) ?_)
  rw [w64 (by omega) (by omega)]
  refine Ev.ite_pos (by omega) (Ev.ite_pos (by omega) (Ev.bindc (reserved_f _) (evq (Ev.now _) ?_)))
  have e1 : (w.extract 0 ((w.size : Int) - 1).toNat).toList = (wordAt m).dropLast := by
    rw [toList_extract, hw, List.drop_zero, List.dropLast_eq_take]
    congr 1; omega
  rw [e1, t4, hw, t7]; rfl
end Go.Proofs.Ytnikdnchoahngaa.Pure
