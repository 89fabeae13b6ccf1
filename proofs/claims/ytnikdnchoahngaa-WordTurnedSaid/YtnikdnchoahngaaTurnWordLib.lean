/- What the functions on names come to, told plainly; over the print of one statement. -/
import Derived.Test.YtnikdnchoahngaaAidBytes
import Derived.Test.YtnikdnchoahngaaPWordTurnedx2
namespace Go.Proofs.Ytnikdnchoahngaa.TurnWordLib
open Go Go.RowKit Go.Proofs.YtnikdnchoahngaaW.PrintWords Go.Proofs.Ytnikdnchoahngaa.Aid Go.Proofs.Ytnikdnchoahngaa.PWordTurned

/-- what a byte begins -/
def bg (c : Int) : Int := if 97 ≤ c ∧ c ≤ 122 then 1 else if (65 ≤ c ∧ c ≤ 90) ∨ c = 95 then 2 else if 48 ≤ c ∧ c ≤ 57 then 3 else 0
/-- may it stand in a name? -/
def inn (c : Int) : Bool := decide (bg c ≠ 0) || decide (c = 64)
def innB (b : UInt8) : Bool := inn (b.toNat : Int)
def resL : List (List UInt8) := [[97, 102, 116, 101, 114], [97, 110, 100], [97, 110, 100, 97, 108, 115, 111], [98, 97, 110, 100], [98, 101, 103, 105, 110], [98, 110, 111, 116], [98, 111, 114], [98, 115, 108], [98, 115, 114], [98, 120, 111, 114], [99, 97, 115, 101], [99, 97, 116, 99, 104], [100, 105, 118], [101, 110, 100], [102, 117, 110], [105, 102], [110, 111, 116], [111, 102], [111, 114], [111, 114, 101, 108, 115, 101], [114, 101, 99, 101, 105, 118, 101], [114, 101, 109], [119, 104, 101, 110], [120, 111, 114]]
def resB (l : List UInt8) : Bool := resL.contains l
def plainL (l : List UInt8) : Bool := match l with
  | [] => false
  | c :: _ => decide (bg (c.toNat : Int) = 1) && !resB l && l.all innB

theorem between_f (c a b : Int) : word_between.f c a b = some (decide (a ≤ c) && decide (c ≤ b)) := by
  unfold word_between.f
  by_cases h : c ≥ a
  · rw [if_pos h]; simp; omega
  · rw [if_neg h]; simp; omega
theorem begins_f (k : Nat) (c : Int) : word_Begins.f (k + 1) c = some (bg c) := by
  unfold word_Begins.f bg
  simp only [between_f, Option.bind_some, word_Begins.j0]
  by_cases h1 : 97 ≤ c ∧ c ≤ 122
  · simp [h1]
  · by_cases h2 : 65 ≤ c ∧ c ≤ 90
    · simp [h1, h2]
    · by_cases h3 : c = 95
      · subst h3; simp
      · by_cases h4 : 48 ≤ c ∧ c ≤ 57
        · simp [h1, h2, h3, h4]
        · simp [h1, h2, h3, h4]
theorem begins_ev (c : Int) : Ev (fun k => word_Begins.f k c) (bg c) := Ev.step (f := fun _ => some (bg c)) (fun k => begins_f k c) (Ev.now _)
theorem inner_ev (c : Int) : Ev (fun k => word_Inner.f k c) (inn c) := by
  unfold word_Inner.f
  refine Ev.bind (begins_ev c) ?_
  by_cases h : bg c = 0
  · refine (evq (Ev.ite_pos h (Ev.now _)) ?_)
    unfold inn; simp [h]; try rfl
  · refine (evq (Ev.ite_neg h (Ev.now _)) ?_)
    unfold inn; simp [h]
theorem res_chain (l : List UInt8) (L : List (List UInt8)) (a : List UInt8) : (if l = a then some true else some (L.contains l)) = some ((a :: L).contains l) := by
  rw [List.contains_cons]
  by_cases h : l = a
  · rw [if_pos h]; simp [h]
  · rw [if_neg h, show (l == a) = false from beq_eq_false_iff_ne.2 h]; simp
theorem reserved_f (s : ByteArray) : word_Reserved.f s = some (resB s.toList) := by
  unfold word_Reserved.f resB resL
  rw [show (some false : Option Bool) = some (([] : List (List UInt8)).contains s.toList) from rfl]
  simp only [res_chain]
theorem plain_l (s : ByteArray) (hs : s.size ≤ 4611686018427387904) (d : Nat) : ∀ i : Nat, i + d = s.size → Ev (fun k => word_Plain.l0 k s (s.size : Int) (i : Int)) ((s.toList.drop i).all innB) := by
  induction d with
  | zero =>
    intro i hi
    refine Ev.step (f := fun _ => some true) (fun k => ?_) ((evq (Ev.now true) ?_))
    · simp only [word_Plain.l0]; rw [if_neg (by omega)]
    · rw [List.drop_eq_nil_of_le (by rw [length_toList]; omega)]; rfl
  | succ d ih =>
    intro i hi
    obtain ⟨c, hb, hd⟩ := bt_drop' s i (by omega)
    refine Ev.step (f := fun k => (word_Inner.f k (bt s i)).bind fun t => if t = true then word_Plain.l0 k s (s.size : Int) (wrap64 ((i : Int) + 1)) else some false) (fun k => ?_) ?_
    · simp only [word_Plain.l0]; rw [if_pos (by omega), if_pos (by omega), if_pos (by omega)]
    · refine Ev.bind (inner_ev _) ?_
      rw [w64 (by omega) (by omega), hd, List.all_cons, hb]
      by_cases h : innB c = true
      · refine (evq (Ev.ite_pos h (ih (i + 1) (by omega))) ?_)
        rw [h]; rfl
      · refine (evq (Ev.ite_neg h (Ev.now _)) ?_)
        simp only [Bool.not_eq_true] at h
        rw [h]; rfl
theorem plain_ev (s : ByteArray) (hs : s.size ≤ 4611686018427387904) : Ev (fun k => word_Plain.f k s) (plainL s.toList) := by
  unfold word_Plain.f
  by_cases h0 : s.toList = []
  · refine Ev.ite_pos h0 ?_
    rw [h0]
    exact Ev.step (f := fun _ => some false) (fun k => by simp only [word_Plain.j0, if_true]) (Ev.now _)
  · have hz : 0 < s.size := by
      rw [← length_toList]; exact List.length_pos_iff.2 h0
    refine Ev.ite_neg h0 (Ev.ite_pos (by omega) (Ev.bind (begins_ev _) ?_))
    obtain ⟨c, hb, hd⟩ := bt_drop' s 0 hz
    have hb' : bt s 0 = (c.toNat : Int) := hb
    rw [hb']
    have hl : s.toList = c :: s.toList.drop 1 := by simpa using hd
    have hp : plainL s.toList = (decide (bg (c.toNat : Int) = 1) && !resB s.toList && s.toList.all innB) := by
      rw [hl]; rfl
    rw [hp]
    by_cases h1 : bg (c.toNat : Int) = 1
    · refine Ev.ite_pos h1 (Ev.bindc (reserved_f s) ?_)
      by_cases h2 : resB s.toList = true
      · rw [h2]
        refine Ev.step (f := fun _ => some false) (fun k => by simp only [word_Plain.j0, if_true]) ((evq (Ev.now _) (by simp)))
      · simp only [Bool.not_eq_true] at h2
        rw [h2]
        refine Ev.step (f := fun k => word_Plain.l0 k s (s.size : Int) 0) (fun k => by simp only [word_Plain.j0]; rw [if_neg (by simp)]) ?_
        refine (evq (plain_l s hs s.size 0 (by omega)) ?_)
        simp [h1]
    · refine Ev.ite_neg h1 (Ev.step (f := fun _ => some false) (fun k => by simp only [word_Plain.j0, if_true]) ((evq (Ev.now _) (by simp [h1]))))
theorem told_ev : Ev (fun k => galleylaw3_told.f k) true := by
  refine Ev.of (fun k => galleylaw3_told.mono k) (k := 20) ?_
  decide +kernel
end Go.Proofs.Ytnikdnchoahngaa.TurnWordLib
