/- LawSplitJoins, part 4: whatever the input, the law comes out true: our texts, joined by a tool, without what the claim does not name. -/
import Derived.Test.YtbmijiibfaacmaaPkSplitJoins3
set_option maxRecDepth 100000
set_option linter.unusedVariables false
set_option linter.unusedSimpArgs false
namespace Go.Proofs.Ytbmijiibfaacmaa.Am
open Go
theorem rnumber_at {k : Nat} {s : List Nat} (hk : s.length + 4 < k) (hs : By s) (hl : Sz s) {a : Nat} (ha : a ≤ s.length) : g59 k s (a : Int) = some (if (numN (s.drop a)).1 = 0 then (tok0, 4) else (mkTok s ((numN (s.drop a)).2, a, (numN (s.drop a)).1), 0)) := by
 have hl' := hl
 unfold Sz at hl
 unfold g59
 refine bS (by (try simp (disch := omega) only [fwI]); exact rbroken_at (by omega) hs hl' ha) ?_
 have pl := partN_le (s.drop a)
 have wl := wholeN_le (s.drop a)
 rw [List.length_drop] at pl wl
 have hi := hash_iff (s.drop a)
 have key : ∀ (n kind : Nat), n ≤ s.length - a → (kind = 4 ∧ n ≠ 0 ∨ kind = 3 ∧ n = wholeN (s.drop a)) →
  (jn (fun (z7 : Bool) => if z7 then (some ((⟨(0 : Int), ([] : List Nat), (0 : Int)⟩ : S46), (4 : Int))) else (jn (fun (z8 : Bool) => jn (fun (z11 : Unit) => (subL s (some (a : Int)) (some (fW .i64 ((a : Int) + (n : Int))))).bind fun x4_4 => some ((⟨(kind : Int), x4_4, (a : Int)⟩ : S46), (0 : Int))) (fun j11 => if z8 then (g59_l9 k j11 s (a : Int) ((kind : Int), (n : Int)) k false (a : Int)) else (j11 ()))) (fun j8 => if (decide ((kind : Int) = 3)) then (if (decide (fW .i64 ((a : Int) + (n : Int)) < (s.length : Int))) then ((nthS s (fW .i64 ((a : Int) + (n : Int)))).bind fun x3_11 => j8 (decide (x3_11 = 35))) else (j8 false)) else (j8 false)))) (fun j7 => if (decide ((n : Int) = 0)) then (j7 true) else (if (decide (fW .i64 ((a : Int) + (n : Int)) < (s.length : Int))) then ((nthS s (fW .i64 ((a : Int) + (n : Int)))).bind fun x2_10 => (g74 k x2_10).bind fun x2_11 => j7 x2_11) else (j7 false))))
  = some (if (if kind = 3 ∧ hashN (s.drop a) n = true then (0, 0) else endN (s.drop a) n kind).1 = 0 then (tok0, 4) else (mkTok s ((if kind = 3 ∧ hashN (s.drop a) n = true then (0, 0) else endN (s.drop a) n kind).2, a, (if kind = 3 ∧ hashN (s.drop a) n = true then (0, 0) else endN (s.drop a) n kind).1), 0)) := by
  intro n kind hn hkind
  rw [fw_a (n := a) (m := n) (by omega) (by omega)]
  have out : (subL s (some (a : Int)) (some ((a + n : Nat) : Int))).bind (fun x4_4 => some ((⟨(kind : Int), x4_4, (a : Int)⟩ : S46), (0 : Int))) = some (mkTok s (kind, a, n), 0) := by
   refine bS (by (try simp (disch := omega) only [fwI]); exact subMid (s := s) (i := a) (j := a + n) rfl rfl (by omega) (by omega)) ?_
   rw [List.drop_take, Nat.add_sub_cancel_left]; rfl
  by_cases h0 : n = 0
  ·subst h0
   refine (jS (v := true) (fun j => rfl)).trans ?_
   refine iT rfl ?_
   rw [if_pos]
   ·rfl
   ·by_cases hh : kind = 3 ∧ hashN (s.drop a) 0 = true
    ·rw [if_pos hh]
    ·rw [if_neg hh]; unfold endN; split
     ·split <;> rfl
     ·rfl
  ·rcases Nat.lt_or_ge (a + n) s.length with h | h
   ·obtain ⟨c, r, hc, hr, hm, hrl⟩ := dcons h
    have nc := nthX (x := ((a + n : Nat) : Int)) rfl hc
    have hc' : (s.drop a).drop n = c :: r := by rw [List.drop_drop]; exact hc
    refine (jS (v := inrN c) (fun j => ?_)).trans ?_
    ·refine iF (dF (by omega)) ?_
     refine iT (dT (by omega)) ?_
     refine bS (by (try simp (disch := omega) only [fwI]); exact nc) ?_
     refine bS (by (try simp (disch := omega) only [fwI]); exact inner_at74 k (hs c hm)) ?_
     rfl
    ·cases hin : inrN c with
     | true =>
      refine iT rfl ?_
      rw [if_pos]
      ·rfl
      ·by_cases hh : kind = 3 ∧ hashN (s.drop a) n = true
       ·rw [if_pos hh]
       ·rw [if_neg hh]; unfold endN; rw [hc']; simp only [hin, if_true]
     | false =>
      refine iF rfl ?_
      have he : endN (s.drop a) n kind = (n, kind) := by unfold endN; rw [hc']; simp only [hin, Bool.false_eq_true, if_false]
      rw [he]
      by_cases h35 : kind = 3 ∧ c = 35
      ·obtain ⟨rfl, rfl⟩ := h35
       have hw : n = wholeN (s.drop a) := by
        rcases hkind with h | h
        ·omega
        ·exact h.2
       refine (jS (v := true) (fun j => ?_)).trans ?_
       ·refine iT rfl ?_
        refine iT (dT (by omega)) ?_
        refine bS (by (try simp (disch := omega) only [fwI]); exact nc) ?_
        rfl
       ·have hh : hashN (s.drop a) n = decide ((frontN (s.drop a)).1 = 0 ∨ n < (frontN (s.drop a)).1) := by
         unfold hashN; rw [hc']; rw [Bool.eq_iff_iff]; simp
        rw [← hw] at hi
        have lp := fun c11 => rnum_l k hl' c11 (a := a) (w := n) (by omega) 3 k a false (by omega) (by omega)
        rw [show a + n - a = n by omega] at lp
        by_cases hb : 35 ∈ (s.drop a).take n
        ·have : hashN (s.drop a) n = false := by rw [hh]; exact decide_eq_false (hi.1 hb)
         rw [this]
         refine (jS (v := ()) (fun j => ?_)).trans ?_
         ·refine iT rfl ?_
          refine (lp j).trans ?_
          rw [if_pos (.inr hb)]
         ·refine out.trans ?_
          simp only [Bool.false_eq_true, and_false, if_false]
          rw [if_neg h0]
        ·have : hashN (s.drop a) n = true := by
          rw [hh]; refine decide_eq_true ?_
          by_cases h1 : (frontN (s.drop a)).1 = 0 ∨ n < (frontN (s.drop a)).1
          ·exact h1
          ·exact absurd (hi.2 h1) hb
         rw [this]
         refine jC fun j => ?_
         refine iT rfl ?_
         refine (lp j).trans ?_
         rw [if_neg (by rintro (h | h); exact absurd h (by decide); exact hb h)]
         rfl
      ·have hnh : ¬ (kind = 3 ∧ hashN (s.drop a) n = true) := by
        rintro ⟨h1, h2⟩
        unfold hashN at h2
        rw [hc'] at h2
        simp only [Bool.and_eq_true, decide_eq_true_eq] at h2
        exact h35 ⟨h1, h2.1⟩
       rw [if_neg hnh]
       refine (jS (v := false) (fun j => ?_)).trans ?_
       ·rcases hkind with ⟨rfl, -⟩ | ⟨rfl, -⟩
        ·rfl
        ·refine iT rfl ?_
         refine iT (dT (by omega)) ?_
         refine bS (by (try simp (disch := omega) only [fwI]); exact nc) ?_
         rw [dF (by omega)]
       ·refine (jS (v := ()) (fun j => rfl)).trans ?_
        refine out.trans ?_
        rw [if_neg h0]
   ·have hc' : (s.drop a).drop n = [] := by rw [List.drop_drop]; exact dnil h
    have he : endN (s.drop a) n kind = (n, kind) := by unfold endN; rw [hc']
    have hh : hashN (s.drop a) n = false := by unfold hashN; rw [hc']
    rw [he, hh]
    simp only [Bool.false_eq_true, and_false, if_false]
    rw [if_neg h0]
    refine (jS (v := false) (fun j => ?_)).trans ?_
    ·refine iF (dF (by omega)) ?_
     refine iF (dF (by omega)) rfl
    ·refine iF rfl ?_
     refine (jS (v := false) (fun j => ?_)).trans ?_
     ·rcases hkind with ⟨rfl, -⟩ | ⟨rfl, -⟩
      ·rfl
      ·refine iT rfl ?_
       refine iF (dF (by omega)) rfl
     ·exact (jS (v := ()) (fun j => rfl)).trans out
 unfold numN
 by_cases h0 : partN (s.drop a) = 0
 ·rw [if_pos h0]
  refine (jS (v := ((3 : Int), (wholeN (s.drop a) : Int))) (fun j => ?_)).trans ?_
  ·refine iT (dT (by omega)) ?_
   refine bS (by (try simp (disch := omega) only [fwI]); exact rwhole_at (by omega) (by omega) hs hl' ha) ?_
   rfl
  ·refine (key (wholeN (s.drop a)) 3 wl (.inr ⟨rfl, rfl⟩)).trans ?_
   simp only [true_and]
 ·rw [if_neg h0]
  refine (jS (v := ((4 : Int), (partN (s.drop a) : Int))) (fun j => ?_)).trans ?_
  ·refine iF (dF (by omega)) rfl
  ·refine (key (partN (s.drop a)) 4 pl (.inl ⟨rfl, h0⟩)).trans ?_
   rfl
end Go.Proofs.Ytbmijiibfaacmaa.Am
set_option maxRecDepth 100000
set_option linter.unusedVariables false
set_option linter.unusedSimpArgs false
namespace Go.Proofs.Ytbmijiibfaacmaa.Am
open Go
theorem moreN_app : ∀ (n c : Nat) (a b : List Nat) (y : Nat), moreN n c a = some y → moreN n c (a ++ b) = some y
 | 0, c, a, b, y, h => h
 | n + 1, c, [], b, y, h => by cases h
 | n + 1, c, x :: a, b, y, h => by
  have e1 : moreN (n + 1) c (x :: a) = if x / 64 = 2 then moreN n (c * 64 + x % 64) a else none := rfl
  have e2 : moreN (n + 1) c (x :: a ++ b) = if x / 64 = 2 then moreN n (c * 64 + x % 64) (a ++ b) else none := rfl
  rw [e1] at h; rw [e2]
  split at h
  ·rw [if_pos (by assumption)]; exact moreN_app n _ a b y h
  ·cases h
theorem dec_app {a : List Nat} (ha : a ≠ []) (h : ¬ (dec a).1 < 0) (b : List Nat) : dec (a ++ b) = dec a := by
 cases a with
 | nil => exact absurd rfl ha
 | cons c r =>
  have hd : ∀ r, dec (c :: r) = if (leadN c).1 = 0 then (-1, 1) else fitN (leadN c).1 (moreN ((leadN c).1 - 1) (leadN c).2 r) := fun _ => rfl
  rw [List.cons_append, hd, hd]
  rw [hd] at h
  by_cases h0 : (leadN c).1 = 0
  ·rw [if_pos h0] at h; exact absurd (by decide) h
  ·rw [if_neg h0] at h; rw [if_neg h0, if_neg h0]
   cases hm : moreN ((leadN c).1 - 1) (leadN c).2 r with
   | none => rw [hm] at h; exact absurd (show ((-1 : Int), (1 : Int)).1 < 0 by decide) h
   | some y => rw [moreN_app _ _ _ _ _ hm]
theorem vld_nil (n : Nat) : vld n [] = true := by cases n <;> rfl
theorem cpc_nil (n : Nat) : cpc n [] = 0 := by cases n <;> rfl
theorem vld_cons {n : Nat} {s : List Nat} (h : s ≠ []) : vld (n + 1) s = if (dec s).1 < 0 then false else vld n (s.drop (dec s).2.toNat) := by
 cases s with
 | nil => exact absurd rfl h
 | cons c r => rfl
theorem cpc_cons {n : Nat} {s : List Nat} (h : s ≠ []) : cpc (n + 1) s = cpc n (s.drop (dec s).2.toNat) + 1 := by
 cases s with
 | nil => exact absurd rfl h
 | cons c r => rfl
theorem vld_more : ∀ (n m : Nat) (s : List Nat), s.length ≤ n → s.length ≤ m → vld n s = vld m s
 | 0, m, s, h1, h2 => by
  have : s = [] := List.eq_nil_of_length_eq_zero (by omega)
  rw [this, vld_nil, vld_nil]
 | n + 1, 0, s, h1, h2 => by
  have : s = [] := List.eq_nil_of_length_eq_zero (by omega)
  rw [this, vld_nil, vld_nil]
 | n + 1, m + 1, s, h1, h2 => by
  by_cases hs : s = []
  ·rw [hs, vld_nil, vld_nil]
  ·obtain ⟨q, n1, n2, n3, n4, n5⟩ := dec_size hs
   rw [vld_cons hs, vld_cons hs, n1]
   have := vld_more n m (s.drop q) (by rw [List.length_drop]; clear n1; omega) (by rw [List.length_drop]; clear n1; omega)
   simp only [Int.toNat_natCast]
   rw [this]
theorem cpc_more : ∀ (n m : Nat) (s : List Nat), s.length ≤ n → s.length ≤ m → cpc n s = cpc m s
 | 0, m, s, h1, h2 => by
  have : s = [] := List.eq_nil_of_length_eq_zero (by omega)
  rw [this, cpc_nil, cpc_nil]
 | n + 1, 0, s, h1, h2 => by
  have : s = [] := List.eq_nil_of_length_eq_zero (by omega)
  rw [this, cpc_nil, cpc_nil]
 | n + 1, m + 1, s, h1, h2 => by
  by_cases hs : s = []
  ·rw [hs, cpc_nil, cpc_nil]
  ·obtain ⟨q, n1, n2, n3, n4, n5⟩ := dec_size hs
   rw [cpc_cons hs, cpc_cons hs, n1]
   have := cpc_more n m (s.drop q) (by rw [List.length_drop]; clear n1; omega) (by rw [List.length_drop]; clear n1; omega)
   simp only [Int.toNat_natCast]
   rw [this]
theorem join_at : ∀ (n : Nat) (a b : List Nat), a.length ≤ n → vld n a = true → vld (n + b.length) (a ++ b) = vld b.length b ∧ cpc (n + b.length) (a ++ b) = cpc n a + cpc b.length b
 | 0, a, b, h, hv => by
  have : a = [] := List.eq_nil_of_length_eq_zero (by omega)
  subst this
  simp [cpc_nil]
 | n + 1, a, b, h, hv => by
  by_cases ha : a = []
  ·subst ha
   rw [List.nil_append, cpc_nil, Nat.zero_add]
   exact ⟨vld_more _ _ _ (by omega) (by omega), cpc_more _ _ _ (by omega) (by omega)⟩
  ·obtain ⟨q, n1, n2, n3, n4, n5⟩ := dec_size ha
   rw [vld_cons ha] at hv
   by_cases hneg : (dec a).1 < 0
   ·rw [if_pos hneg] at hv; cases hv
   ·rw [if_neg hneg, n1, Int.toNat_natCast] at hv
    have hab : a ++ b ≠ [] := by simp [ha]
    have hd := dec_app ha hneg b
    rw [show n + 1 + b.length = (n + b.length) + 1 from by clear n1; omega, vld_cons hab, cpc_cons hab, hd, if_neg hneg, n1, Int.toNat_natCast, List.drop_append_of_le_length n4, cpc_cons ha, n1, Int.toNat_natCast]
    have ih := join_at n (a.drop q) b (by rw [List.length_drop]; clear n1; omega) hv
    rw [ih.1, ih.2]
    exact ⟨rfl, by clear n1; omega⟩
theorem join_all {a b : List Nat} (hv : vld a.length a = true) : vld (a ++ b).length (a ++ b) = vld b.length b ∧ cpc (a ++ b).length (a ++ b) = cpc a.length a + cpc b.length b := by
 have := join_at a.length a b (Nat.le_refl _) hv
 rw [List.length_append]
 exact this
end Go.Proofs.Ytbmijiibfaacmaa.Am
set_option maxRecDepth 100000
set_option linter.unusedVariables false
set_option linter.unusedSimpArgs false
namespace Go.Proofs.Ytbmijiibfaacmaa.Am
open Go
def V (s : List Nat) : Bool := vld s.length s
theorem V_app {a : List Nat} (b : List Nat) (h : V a = true) : V (a ++ b) = V b := (join_all h).1
theorem skip_head : ∀ {s : List Nat} {c : Nat} {r : List Nat}, s.drop (skipN s) = c :: r → blkN c = false
 | [], c, r, h => by cases h
 | d :: s, c, r, h => by
  simp only [skipN] at h
  by_cases hb : blkN d = true
  ·rw [if_pos hb, List.drop_succ_cons] at h
   exact skip_head h
  ·rw [if_neg hb, List.drop_zero] at h
   rw [← (List.cons.inj h).1]
   exact Bool.eq_false_iff.2 hb
theorem skip_app : ∀ (u v : List Nat), skipN (u ++ v) = if skipN u = u.length then u.length + skipN v else skipN u
 | [], v => by simp [skipN]
 | d :: u, v => by
  simp only [List.cons_append, skipN, List.length_cons]
  have ih := skip_app u v
  have l := skipN_le u
  by_cases hb : blkN d = true
  ·simp only [if_pos hb, ih]
   by_cases h : skipN u = u.length
   ·rw [if_pos h, if_pos (by omega)]; omega
   ·rw [if_neg h, if_neg (by omega)]
  ·simp only [if_neg hb]
   rw [if_neg (by omega)]
def Toks (s : List Nat) : Nat → List (Nat × Nat × Nat) → Prop
 | a, [] => s.length ≤ a + skipN (s.drop a)
 | a, x :: l => x.2.1 = a + skipN (s.drop a) ∧ x.2.1 < s.length ∧ oneN (s.drop x.2.1) = (x.2.2, x.1) ∧ x.2.2 ≠ 0 ∧ Toks s (x.2.1 + x.2.2) l
theorem toks_iff (s : List Nat) : ∀ (f a : Nat) (l : List (Nat × Nat × Nat)), s.length < a + f → (toksN s f a = some l ↔ Toks s a l)
 | 0, a, l, h => by
  have hd : s.drop a = [] := dnil (by omega)
  simp only [toksN]
  cases l with
  | nil => simp only [Toks, hd, skipN]; simp; omega
  | cons x l =>
   simp only [Toks, hd, skipN]
   constructor
   ·intro h; cases h
   ·rintro ⟨h1, h2, -⟩; omega
 | f + 1, a, l, h => by
  have ih := fun a' l' hh => toks_iff s f a' l' hh
  unfold toksN
  by_cases hb : s.length ≤ a + skipN (s.drop a)
  ·rw [if_pos hb]
   cases l with
   | nil => simp only [Toks]; simp [hb]
   | cons x l =>
    simp only [Toks]
    constructor
    ·intro h; cases h
    ·rintro ⟨h1, h2, -⟩; omega
  ·rw [if_neg hb]
   by_cases h0 : (oneN (s.drop (a + skipN (s.drop a)))).1 = 0
   ·rw [if_pos h0]
    cases l with
    | nil => simp only [Toks]; simp; omega
    | cons x l =>
     simp only [Toks]
     constructor
     ·intro h; cases h
     ·rintro ⟨h1, h2, h3, h4, -⟩
      rw [← h1, h3] at h0
      exact absurd h0 h4
   ·rw [if_neg h0]
    cases l with
    | nil =>
     simp only [Toks]
     constructor
     ·intro h
      cases ht : toksN s f (a + skipN (s.drop a) + (oneN (s.drop (a + skipN (s.drop a)))).1) with
      | none => rw [ht] at h; cases h
      | some l => rw [ht] at h; cases h
     ·intro h; exact absurd h hb
    | cons x l =>
     obtain ⟨k, b, n⟩ := x
     simp only [Toks]
     constructor
     ·intro h
      cases ht : toksN s f (a + skipN (s.drop a) + (oneN (s.drop (a + skipN (s.drop a)))).1) with
      | none => rw [ht] at h; cases h
      | some l' =>
       rw [ht] at h
       cases h
       refine ⟨rfl, by omega, rfl, h0, ?_⟩
       exact (ih _ _ (by have := Nat.pos_of_ne_zero h0; omega)).1 ht
     ·rintro ⟨rfl, h2, h3, h4, h5⟩
      have e1 : (oneN (s.drop (a + skipN (s.drop a)))).1 = n := by rw [h3]
      have e2 : (oneN (s.drop (a + skipN (s.drop a)))).2 = k := by rw [h3]
      rw [e1, e2, (ih _ _ (by have := Nat.pos_of_ne_zero h4; omega)).2 h5]
      rfl
theorem toks_bounds {s : List Nat} : ∀ {l : List (Nat × Nat × Nat)} {a : Nat}, Toks s a l → a ≤ s.length → ∀ x ∈ l, a ≤ x.2.1 ∧ x.2.1 + x.2.2 ≤ s.length ∧ x.2.2 ≠ 0
 | [], a, h, ha, x, hx => by cases hx
 | y :: l, a, h, ha, x, hx => by
  obtain ⟨h1, h2, h3, h4, h5⟩ := h
  have ol := oneN_le (s.drop y.2.1)
  rw [h3, List.length_drop] at ol
  rcases List.mem_cons.1 hx with rfl | hx
  ·exact ⟨by omega, by simp only [] at ol; omega, h4⟩
  ·have := toks_bounds h5 (by simp only [] at ol; omega) x hx
   omega
theorem toks_from {s : List Nat} {a a' : Nat} {l : List (Nat × Nat × Nat)} (h : Toks s a l) (e : a + skipN (s.drop a) = a' + skipN (s.drop a')) : Toks s a' l := by
 cases l with
 | nil => simp only [Toks] at h ⊢; omega
 | cons x l =>
  simp only [Toks] at h ⊢
  rw [← e]; exact h
def shiftT (n : Nat) (x : Nat × Nat × Nat) : Nat × Nat × Nat := (x.1, n + x.2.1, x.2.2)
theorem drop_shift (x s : List Nat) (i : Nat) : (x ++ s).drop (x.length + i) = s.drop i := by rw [List.drop_append]; simp
theorem toks_shift (x : List Nat) {s : List Nat} : ∀ {l : List (Nat × Nat × Nat)} {a : Nat}, Toks s a l → Toks (x ++ s) (x.length + a) (l.map (shiftT x.length))
 | [], a, h => by
  simp only [List.map_nil, Toks, List.length_append] at h ⊢
  rw [drop_shift]; omega
 | y :: l, a, h => by
  simp only [Toks] at h
  obtain ⟨h1, h2, h3, h4, h5⟩ := h
  simp only [List.map_cons, Toks, shiftT, List.length_append]
  rw [drop_shift, drop_shift]
  refine ⟨by omega, by omega, h3, h4, ?_⟩
  have := toks_shift x h5
  rw [show x.length + y.2.1 + y.2.2 = x.length + (y.2.1 + y.2.2) by omega]
  exact this
theorem toks_join (b : List Nat) {a : List Nat} : ∀ {l m : List (Nat × Nat × Nat)} {p : Nat}, p ≤ a.length → Toks a p l → Toks b 0 m → Toks (a ++ 10 :: b) p (l ++ m.map (shiftT (a.length + 1)))
 | [], m, p, hp, h, hm => by
  have hs := toks_shift (a ++ [10]) hm
  rw [List.append_assoc] at hs
  simp only [List.length_append, List.length_cons, List.length_nil, Nat.add_zero] at hs
  simp only [List.nil_append]
  refine toks_from hs ?_
  simp only [Toks] at h
  have sl := skipN_le (a.drop p)
  have dl := List.length_drop (i := p) (l := a)
  have e1 : (a ++ 10 :: b).drop p = a.drop p ++ 10 :: b := List.drop_append_of_le_length hp
  have e2 : (a ++ ([10] ++ b)).drop (a.length + (0 + 1)) = b := by
   exact drop_shift a (10 :: b) 1
  rw [show a ++ 10 :: b = a ++ ([10] ++ b) from rfl] at e1 ⊢
  rw [e2, e1, skip_app, if_pos (by omega)]
  show _ = p + ((a.drop p).length + skipN (10 :: b))
  simp only [skipN, show blkN 10 = true from rfl, if_true]
  omega
 | x :: l, m, p, hp, h, hm => by
  simp only [Toks] at h
  obtain ⟨h1, h2, h3, h4, h5⟩ := h
  have sl := skipN_le (a.drop p)
  have dl := List.length_drop (i := p) (l := a)
  have e1 : (a ++ 10 :: b).drop p = a.drop p ++ 10 :: b := List.drop_append_of_le_length hp
  have e2 : (a ++ 10 :: b).drop x.2.1 = a.drop x.2.1 ++ 10 :: b := List.drop_append_of_le_length (by omega)
  have ol := oneN_le (a.drop x.2.1)
  rw [h3, List.length_drop] at ol
  simp only [List.cons_append, Toks, List.length_append, List.length_cons]
  obtain ⟨c, r, hc, -, -, -⟩ := dcons h2
  have hb : blkN c = false := by
   rw [h1, ← List.drop_drop] at hc
   exact skip_head hc
  refine ⟨?_, by omega, ?_, h4, ?_⟩
  ·rw [e1, skip_app, if_neg (by omega)]; exact h1
  ·rw [e2, hc, one_line (by rintro rfl; cases hb), ← hc]; exact h3
  ·exact toks_join b (by simp only [] at ol; omega) h5 hm
theorem scan_some {s : List Nat} (h16 : s.length ≤ 65536) (hv : V s = true) {l : List (Nat × Nat × Nat)} (h : Toks s 0 l) : scanN s = (l.map (mkTok s), 0) := by
 unfold scanN
 unfold V at hv
 rw [if_neg (by omega), hv, if_neg (by decide), (toks_iff s (s.length + 1) 0 l (by omega)).2 h]
theorem scan_ok {s : List Nat} (h : (scanN s).2 = 0) : ∃ l, Toks s 0 l ∧ scanN s = (l.map (mkTok s), 0) ∧ V s = true ∧ s.length ≤ 65536 := by
 unfold scanN at h ⊢
 by_cases h1 : 65536 < s.length
 ·rw [if_pos h1] at h; cases h
 ·rw [if_neg h1] at h ⊢
  by_cases h2 : vld s.length s = false
  ·rw [if_pos h2] at h; cases h
  ·rw [if_neg h2] at h ⊢
   cases ht : toksN s (s.length + 1) 0 with
   | none => rw [ht] at h; cases h
   | some l =>
    exact ⟨l, (toks_iff s (s.length + 1) 0 l (by omega)).1 ht, rfl, by unfold V; cases hv : vld s.length s with | true => rfl | false => exact absurd hv h2, by omega⟩
end Go.Proofs.Ytbmijiibfaacmaa.Am
set_option maxRecDepth 100000
set_option linter.unusedVariables false
set_option linter.unusedSimpArgs false
namespace Go.Proofs.Ytbmijiibfaacmaa.Am
open Go
def macB (t : List Nat) : Bool := match t with | c :: _ => decide (begN c = 1 ∨ begN c = 2) | [] => false
theorem begN_le (c : Nat) : begN c ≤ 3 := by
 unfold begN; repeat' split
 all_goals omega
theorem trmN_take (t : List Nat) (n : Nat) : ∀ i, i ≤ n → trmN (t.take n) i = trmN t i
 | 0, _ => rfl
 | i + 1, h => by
  have ih := trmN_take t n i (by omega)
  simp only [trmN, ih]
  rcases Nat.lt_or_ge i t.length with hi | hi
  ·obtain ⟨c, r, hc, hr, hm, hrl⟩ := dcons hi
   rw [hc, List.drop_take, hc, show n - i = (n - i - 1) + 1 by omega, List.take_succ_cons]
  ·rw [dnil hi, dnil (by rw [List.length_take]; omega)]
theorem trmN_pos {c : Nat} {r : List Nat} (h : blkN c = false) : ∀ i, 1 ≤ i → 1 ≤ trmN (c :: r) i
 | 0, h1 => absurd h1 (by decide)
 | i + 1, _ => by
  simp only [trmN]
  cases i with
  | zero => simp only [List.drop_zero, h, Bool.false_eq_true, if_false]; exact Nat.le_refl _
  | succ i =>
   have := trmN_pos (r := r) h (i + 1) (by omega)
   split
   ·split <;> omega
   ·omega
theorem lineN_no10 : ∀ s : List Nat, 10 ∉ s.take (lineN s)
 | [], h => by simp at h
 | c :: r, h => by
  simp only [lineN] at h
  split at h
  ·simp at h
  ·rw [List.take_succ_cons] at h
   rcases List.mem_cons.1 h with e | e
   ·rename_i hc; exact hc e.symm
   ·exact lineN_no10 r e
theorem cmtN_pos (r : List Nat) : 1 ≤ cmtN (37 :: r) := by
 unfold cmtN
 exact trmN_pos (by decide) _ (by simp [lineN])
theorem rtrm_l (k : Nat) {u : List Nat} (hl : Sz u) (h10 : 10 ∉ u) : ∀ (i f : Nat), i < f → i ≤ u.length → g57_l2 k u f (i : Int) = some (u.take (trmN u i))
 | 0, f, hf, hi => by
  obtain ⟨f, rfl⟩ : ∃ f', f = f' + 1 := ⟨f - 1, by omega⟩
  rw [g57_l2_s]
  refine (jS (v := (false, (0 : Int))) (fun j => rfl)).trans ?_
  refine iF rfl ?_
  refine bS (by (try simp (disch := omega) only [fwI]); exact subTo (s := u) (x := (0 : Int)) (i := 0) rfl (Nat.zero_le _)) ?_
  rfl
 | i + 1, f, hf, hi => by
  have hl' := hl
  unfold Sz at hl
  obtain ⟨f, rfl⟩ : ∃ f', f = f' + 1 := ⟨f - 1, by omega⟩
  rw [g57_l2_s]
  obtain ⟨c, r, hc, hr, hm, hrl⟩ := dcons (s := u) (i := i) (by omega)
  have nc := nthX (x := (i : Int)) rfl hc
  have c10 : c ≠ 10 := fun h => h10 (h ▸ hm)
  have ih := rtrm_l k hl' h10 i f (by omega) (by omega)
  rw [fw_p (by omega)]
  refine (jS (v := (blkN c, ((i + 1 : Nat) : Int))) (fun j => ?_)).trans ?_
  ·refine iT (dT (by omega)) ?_
   refine bS (by (try simp (disch := omega) only [fwI]); exact nc) ?_
   unfold blkN
   rw [decide_eq_false c10]
   by_cases h1 : c = 32
   ·refine iT (dT (by omega)) ?_
    rw [decide_eq_true h1]; rfl
   refine iF (dF (by omega)) ?_
   refine bS (by (try simp (disch := omega) only [fwI]); exact nc) ?_
   rw [decide_eq_false h1]
   by_cases h2 : c = 9
   ·refine iT (dT (by omega)) ?_
    rw [decide_eq_true h2]; rfl
   refine iF (dF (by omega)) ?_
   refine bS (by (try simp (disch := omega) only [fwI]); exact nc) ?_
   rw [decide_eq_false h2]
   have : decide ((c : Int) = 13) = decide (c = 13) := by rw [Bool.eq_iff_iff]; simp; omega
   rw [this]; rfl
  ·simp only [trmN, hc]
   cases blkN c with
   | true =>
    refine iT rfl ?_
    show g57_l2 k u f (fW .i64 (((i + 1 : Nat) : Int) - 1)) = _
    rw [fw_p (by omega)]
    exact ih
   | false =>
    refine iF rfl ?_
    refine bS (by (try simp (disch := omega) only [fwI]); exact subTo (s := u) (x := ((i + 1 : Nat) : Int)) (i := i + 1) rfl hi) ?_
    rfl
theorem rtrm_at {k : Nat} {u : List Nat} (hk : u.length < k) (hl : Sz u) (h10 : 10 ∉ u) : g57 k u = some (u.take (trmN u u.length)) := rtrm_l k hl h10 u.length k hk (Nat.le_refl _)
theorem rnote_l {k : Nat} {s : List Nat} (hk : s.length < k) (hs : By s) (hl : Sz s) {a : Nat} {t : List Nat} (ha : s.drop a = 37 :: t) : ∀ (f i : Nat), s.length < i + f → i ≤ s.length → i + lineN (s.drop i) = a + lineN (s.drop a) → a ≤ i → g46_l18 k s (a : Int) f (i : Int) = some (mkTok s (11, a, cmtN (s.drop a)), 0)
 | 0, i, h, h2, h3, h4 => by omega
 | f + 1, i, h, h2, h3, h4 => by
  have hl' := hl
  unfold Sz at hl
  rw [g46_l18_s]
  have fin : i = a + lineN (s.drop a) → (subL s (some (a : Int)) (some (i : Int))).bind (fun x16_3 => (g57 k x16_3).bind fun x16_4 => some ((⟨(11 : Int), x16_4, (a : Int)⟩ : S46), (0 : Int))) = some (mkTok s (11, a, cmtN (s.drop a)), 0) := by
   intro hi
   have ll := lineN_le (s.drop a)
   rw [List.length_drop] at ll
   refine bS (by (try simp (disch := omega) only [fwI]); exact subMid (s := s) (i := a) (j := i) rfl rfl h4 h2) ?_
   rw [List.drop_take, show i - a = lineN (s.drop a) by omega]
   have ul : ((s.drop a).take (lineN (s.drop a))).length = lineN (s.drop a) := by rw [List.length_take, List.length_drop]; omega
   refine bS (by (try simp (disch := omega) only [fwI]); exact rtrm_at (k := k) (u := (s.drop a).take (lineN (s.drop a))) (by rw [ul]; omega) (by unfold Sz; rw [ul]; omega) (lineN_no10 _)) ?_
   rw [ul, trmN_take _ _ _ (Nat.le_refl _), List.take_take, Nat.min_eq_left (trmN_le _ _)]
   rfl
  rcases Nat.lt_or_ge i s.length with hi | hi
  ·obtain ⟨c, r, hc, hr, hm, hrl⟩ := dcons hi
   have nc := nthX (x := (i : Int)) rfl hc
   have h3' := h3
   rw [hc] at h3
   simp only [lineN] at h3
   refine (jS (v := (!decide (c = 10), (i : Int))) (fun j => ?_)).trans ?_
   ·refine iT (dT (by omega)) ?_
    refine bS (by (try simp (disch := omega) only [fwI]); exact nc) ?_
    congr 2
    rw [Bool.eq_iff_iff]; simp; omega
   ·by_cases h10 : c = 10
    ·rw [decide_eq_true h10]
     rw [if_pos h10] at h3
     refine iF rfl ?_
     exact fin (by omega)
    ·rw [decide_eq_false h10]
     rw [if_neg h10] at h3
     refine iT rfl ?_
     have e : ∀ _ : Unit, fW .i64 ((i : Int) + 1) = ((i + 1 : Nat) : Int) := fun _ => fw_s (by omega)
     have ih := rnote_l hk hs hl' ha f (i + 1) (by omega) (by omega) (by rw [hr]; omega) (by omega)
     show g46_l18 k s (a : Int) f (fW .i64 ((i : Int) + 1)) = _
     rw [e ()]
     exact ih
  ·refine (jS (v := (false, (i : Int))) (fun j => ?_)).trans ?_
   ·refine iF (dF (by omega)) rfl
   ·refine iF rfl ?_
    rw [dnil hi] at h3
    exact fin (by simpa [lineN] using h3)
theorem rOne_at {k : Nat} {s : List Nat} (hk : s.length + 40 < k) (hs : By s) (hl : Sz s) {a : Nat} (ha : a < s.length) : g46 k s (a : Int) = some (oneAt s a) := by
 have hl' := hl
 unfold Sz at hl
 unfold g46 oneAt
 refine (jS (v := false) (fun j => by simp (disch := omega) only [↓reduceIte, ↓jn, gsL])).trans ?_
 refine iF rfl ?_
 obtain ⟨c, r, hc, hr, hm, hrl⟩ := dcons ha
 have c256 := hs c hm
 have nc := nthX (x := (a : Int)) rfl hc
 have ol := oneN_le (s.drop a)
 rw [List.length_drop] at ol
 refine bS (by (try simp (disch := omega) only [fwI]); exact nc) ?_
 by_cases h37 : c = 37
 ·subst h37
  refine iT rfl ?_
  have e : oneN (s.drop a) = (cmtN (s.drop a), 11) := by rw [hc]; rfl
  rw [e, if_neg (by rw [hc]; have := cmtN_pos r; show ¬ cmtN (37 :: r) = 0; omega)]
  exact rnote_l (by omega) hs hl' hc k a (by omega) (by omega) rfl (Nat.le_refl _)
 refine iF (dF (by omega)) ?_
 have out : ∀ (n kind : Nat), n ≤ s.length - a → (if decide ((n : Int) = 0) then some (tok0, (4 : Int)) else (subL s (some (a : Int)) (some (fW .i64 ((a : Int) + (n : Int))))).bind fun x14_6 => some ((⟨(kind : Int), x14_6, (a : Int)⟩ : S46), (0 : Int))) = some (if n = 0 then (tok0, 4) else (mkTok s (kind, a, n), 0)) := by
  intro n kind hn
  by_cases h0 : n = 0
  ·rw [if_pos h0]
   refine iT (dT (by omega)) rfl
  ·rw [if_neg h0]
   refine iF (dF (by omega)) ?_
   rw [fw_a (by omega) (by omega)]
   refine bS (by (try simp (disch := omega) only [fwI]); exact subMid (s := s) (i := a) (j := a + n) rfl rfl (by omega) (by omega)) ?_
   rw [List.drop_take, Nat.add_sub_cancel_left]; rfl
 have isD : ∀ _ : Unit, (∀ (j : Bool → Option (S46 × Int)), (if (decide ((c : Int) = 46)) then (if (decide (fW .i64 ((a : Int) + 1) = (s.length : Int))) then (j true) else ((nthS s (fW .i64 ((a : Int) + 1))).bind fun x1_12 => if (decide (x1_12 = 37)) then (j true) else ((g45 k s (fW .i64 ((a : Int) + 1))).bind fun x1_19 => j (decide (fW .i64 ((a : Int) + 1) < x1_19))))) else (j false)) = j (decide (c = 46) && dotN r)) := by
  intro _ j
  by_cases h46 : c = 46
  ·rw [decide_eq_true h46, Bool.true_and]
   refine iT (dT (by omega)) ?_
   rw [fw_s (by omega)]
   cases r with
   | nil =>
    simp only [List.length_nil] at hrl
    refine iT (dT (by omega)) rfl
   | cons d q =>
    simp only [List.length_cons] at hrl
    have nd := nthX (x := ((a + 1 : Nat) : Int)) rfl hr
    refine iF (dF (by omega)) ?_
    refine bS (by (try simp (disch := omega) only [fwI]); exact nd) ?_
    simp only [dotN]
    by_cases h37 : d = 37
    ·refine iT (dT (by omega)) ?_
     rw [decide_eq_true h37, Bool.or_true]
    ·refine iF (dF (by omega)) ?_
     have rb := rblank_at (k := k) (by omega) hs hl' (a := a + 1) (by omega)
     rw [hr] at rb
     refine bS (by (try simp (disch := omega) only [fwI]); exact rb) ?_
     rw [decide_eq_false h37, Bool.or_false]
     refine congrArg j ?_
     by_cases hb : blkN d = true
     ·have e : skipN (d :: q) = skipN q + 1 := by simp only [skipN, hb, if_true]
      rw [hb]; exact decide_eq_true (by omega)
     ·have e : skipN (d :: q) = 0 := by simp only [skipN, if_neg hb]
      rw [Bool.eq_false_iff.2 hb]; exact decide_eq_false (by omega)
  ·rw [decide_eq_false h46, Bool.false_and]
   refine iF (dF (by omega)) rfl
 have eo : oneN (s.drop a) = if c = 46 ∧ dotN r = true then (1, 10) else if c = 39 then (qtdN (s.drop a), 1) else if c = 34 then (qtdN (s.drop a), 6) else if c = 36 then (chrN (s.drop a), 5) else if c = 63 then (macN (s.drop a), 7)
  else if begN c = 3 then numN (s.drop a) else if begN c = 1 ∨ begN c = 2 then (innN (s.drop a), if rsvN ((s.drop a).take (innN (s.drop a))) then 8 else begN c) else (lngN (s.drop a), 9) := by
  rw [hc]; simp only [oneN]; rw [if_neg h37]
 refine (jS (v := decide (c = 46) && dotN r) (fun j => isD () j)).trans ?_
 clear isD
 have il := innN_le (s.drop a)
 rw [List.length_drop] at il
 by_cases h46 : c = 46 ∧ dotN r = true
 ·rw [if_pos h46] at eo
  rw [eo] at ol ⊢
  obtain ⟨h1, h2⟩ := h46
  rw [decide_eq_true h1, h2]
  refine (jS (v := (((10 : Nat) : Int), ((1 : Nat) : Int))) (fun j => iT (Bool.and_self true) (congrArg j (Prod.ext rfl rfl)))).trans ?_
  exact out 1 10 ol
 ·rw [if_neg h46] at eo
  have : (decide (c = 46) && dotN r) = false := by
   rw [Bool.and_eq_false_iff]
   by_cases h : c = 46
   ·right
    cases hd : dotN r with
    | true => exact absurd ⟨h, hd⟩ h46
    | false => rfl
   ·left; exact decide_eq_false h
  rw [this]
  have bg := begins_at58 k c256
  have nodig : (c = 39 ∨ c = 34 ∨ c = 36 ∨ c = 63) → begN c = 0 := by rintro (rfl | rfl | rfl | rfl) <;> decide
  by_cases h39 : c = 39
  ·rw [if_pos h39] at eo
   rw [eo] at ol ⊢
   subst h39
   refine (jS (v := (((1 : Nat) : Int), (qtdN (s.drop a) : Int))) (fun j => ?_)).trans ?_
   ·refine iF rfl ?_
    refine bS (by (try simp (disch := omega) only [fwI]); exact bg) ?_
    refine iF rfl ?_
    refine bS (by (try simp (disch := omega) only [fwI]); exact bg) ?_
    refine iF rfl ?_
    refine iT rfl ?_
    refine bS (by (try simp (disch := omega) only [fwI]); exact rquoted_at (by omega) hs hl' hc (.inl rfl)) ?_
    rfl
   ·exact out _ 1 ol
  rw [if_neg h39] at eo
  by_cases h34 : c = 34
  ·rw [if_pos h34] at eo
   rw [eo] at ol ⊢
   subst h34
   refine (jS (v := (((6 : Nat) : Int), (qtdN (s.drop a) : Int))) (fun j => ?_)).trans ?_
   ·refine iF rfl ?_
    refine bS (by (try simp (disch := omega) only [fwI]); exact bg) ?_
    refine iF rfl ?_
    refine bS (by (try simp (disch := omega) only [fwI]); exact bg) ?_
    refine iF rfl ?_
    refine iF rfl ?_
    refine iT rfl ?_
    refine bS (by (try simp (disch := omega) only [fwI]); exact rquoted_at (by omega) hs hl' hc (.inr rfl)) ?_
    rfl
   ·exact out _ 6 ol
  rw [if_neg h34] at eo
  by_cases h36 : c = 36
  ·rw [if_pos h36] at eo
   rw [eo] at ol ⊢
   subst h36
   refine (jS (v := (((5 : Nat) : Int), (chrN (s.drop a) : Int))) (fun j => ?_)).trans ?_
   ·refine iF rfl ?_
    refine bS (by (try simp (disch := omega) only [fwI]); exact bg) ?_
    refine iF rfl ?_
    refine bS (by (try simp (disch := omega) only [fwI]); exact bg) ?_
    refine iF rfl ?_
    refine iF rfl ?_
    refine iF rfl ?_
    refine iT rfl ?_
    refine bS (by (try simp (disch := omega) only [fwI]); exact rchar_at (by omega) hs hl' hc) ?_
    rfl
   ·exact out _ 5 ol
  rw [if_neg h36] at eo
  by_cases h63 : c = 63
  ·rw [if_pos h63] at eo
   rw [eo] at ol ⊢
   subst h63
   have mac : ∀ (n : Nat) (t : List Nat) (j : Int × Int → Option (S46 × Int)), a + n ≤ s.length → s.drop (a + n) = t →
    jn (fun (z23 : Bool) => if z23 then ((g60 k s ((a + n : Nat) : Int)).bind fun x13_2 => j (7, fW .i64 (x13_2 - (a : Int)))) else (j (0, 0))) (fun j23 => if (decide (((a + n : Nat) : Int) < (s.length : Int))) then ((nthS s ((a + n : Nat) : Int)).bind fun x12_7 => (g64 k x12_7).bind fun x12_8 => if x12_8 then (j23 true) else ((nthS s ((a + n : Nat) : Int)).bind fun x12_12 => j23 (decide (x12_12 = 95)))) else (j23 false)) = j (if macB t then (7, (mac1 n t : Int)) else (0, 0)) := by
    intro n t j hn ht
    rcases Nat.lt_or_ge (a + n) s.length with h | h
    ·obtain ⟨d, q, hd, hq, hdm, hql⟩ := dcons h
     rw [ht] at hd
     subst hd
     have nd := nthX (x := ((a + n : Nat) : Int)) rfl ht
     have lt := letter_at k (hs d hdm)
     have lb : (letN d || decide (d = 95)) = decide (begN d = 1 ∨ begN d = 2) := by
      have w := byteAll (f := fun d => (letN d || decide (d = 95)) == decide (begN d = 1 ∨ begN d = 2)) (by decide +kernel) (hs d hdm)
      exact eq_of_beq w
     refine (jS (v := decide (begN d = 1 ∨ begN d = 2)) (fun j23 => ?_)).trans ?_
     ·refine iT (dT (by omega)) ?_
      refine bS (by (try simp (disch := omega) only [fwI]); exact nd) ?_
      refine bS (by (try simp (disch := omega) only [fwI]); exact lt) ?_
      rw [← lb]
      cases letN d with
      | true => rfl
      | false =>
       refine iF rfl ?_
       refine bS (by (try simp (disch := omega) only [fwI]); exact nd) ?_
       rw [Bool.false_or]
       refine congrArg j23 ?_
       rw [Bool.eq_iff_iff]; simp; omega
     ·by_cases hb : begN d = 1 ∨ begN d = 2
      ·have mb : macB (d :: q) = true := decide_eq_true hb
       rw [decide_eq_true hb, mb]
       refine iT rfl ?_
       have ri := rinner_at (k := k) (by omega) hs hl' (a := a + n) hn
       rw [ht] at ri
       refine bS (by (try simp (disch := omega) only [fwI]); exact ri) ?_
       have il := innN_le (d :: q)
       simp only [List.length_cons] at il
       rw [fwI (by omega) (by omega)]
       simp only [mac1, if_pos hb, if_true]
       refine congrArg j (Prod.ext rfl ?_)
       show ((_ : Nat) : Int) - (a : Int) = ((_ : Nat) : Int)
       omega
      ·have mb : macB (d :: q) = false := decide_eq_false hb
       rw [decide_eq_false hb, mb]
       rfl
    ·rw [dnil h] at ht
     subst ht
     refine (jS (v := false) (fun j23 => ?_)).trans ?_
     ·refine iF (dF (by omega)) rfl
     ·rfl
   have fin : ∀ (n : Nat) (t : List Nat) (X : (Int × Int → Option (S46 × Int)) → Option (S46 × Int)), macN (s.drop a) = mac1 n t → (∀ j, X j = j (if macB t then (7, (mac1 n t : Int)) else (0, 0))) →
    jn (fun (z20 : Int × Int) => if (decide (z20.2 = 0)) then (some ((⟨(0 : Int), ([] : List Nat), (0 : Int)⟩ : S46), (4 : Int))) else ((subL s (some (a : Int)) (some (fW .i64 ((a : Int) + z20.2)))).bind fun x14_6 => some ((⟨z20.1, x14_6, (a : Int)⟩ : S46), (0 : Int)))) X = some (if (macN (s.drop a), 7).1 = 0 then (tok0, 4) else (mkTok s ((macN (s.drop a), 7).2, a, (macN (s.drop a), 7).1), 0)) := by
    intro n t X hm hX
    rw [hm] at ol ⊢
    cases h : macB t with
    | false =>
     rw [h] at hX
     have m0 : mac1 n t = 0 := by
      cases t with
      | nil => rfl
      | cons d q => simp only [mac1, if_neg (of_decide_eq_false h)]
     refine (jS hX).trans ?_
     rw [m0]; rfl
    | true =>
     rw [h] at hX
     refine (jS hX).trans ?_
     exact out _ 7 ol
   cases r with
   | nil =>
    simp only [List.length_nil] at hrl
    refine fin 1 [] _ (by rw [hc]; rfl) (fun j => ?_)
    refine iF rfl ?_
    refine bS (by (try simp (disch := omega) only [fwI]); exact bg) ?_
    refine iF rfl ?_
    refine bS (by (try simp (disch := omega) only [fwI]); exact bg) ?_
    refine iF rfl ?_
    refine iF rfl ?_
    refine iF rfl ?_
    refine iF rfl ?_
    refine iT rfl ?_
    refine (jS (v := false) (fun j => ?_)).trans ?_
    ·refine iF (dF (by rw [fw_s (by omega)]; omega)) rfl
    ·refine (jS (v := ((a + 1 : Nat) : Int)) (fun j => ?_)).trans ?_
     ·refine iF rfl ?_
      rw [fw_s (by omega)]
     ·exact mac 1 [] j (by omega) hr
   | cons d q =>
    simp only [List.length_cons] at hrl
    have nd := nthX (x := ((a + 1 : Nat) : Int)) rfl hr
    by_cases hd : d = 63
    ·refine fin 2 q _ (by rw [hc]; simp only [macN, hd, if_true]) (fun j => ?_)
     refine iF rfl ?_
     refine bS (by (try simp (disch := omega) only [fwI]); exact bg) ?_
     refine iF rfl ?_
     refine bS (by (try simp (disch := omega) only [fwI]); exact bg) ?_
     refine iF rfl ?_
     refine iF rfl ?_
     refine iF rfl ?_
     refine iF rfl ?_
     refine iT rfl ?_
     refine (jS (v := true) (fun j => ?_)).trans ?_
     ·rw [fw_s (by omega)]
      refine iT (dT (by omega)) ?_
      refine bS (by (try simp (disch := omega) only [fwI]); exact nd) ?_
      rw [dT (by omega)]
     ·refine (jS (v := ((a + 2 : Nat) : Int)) (fun j => ?_)).trans ?_
      ·refine iT rfl ?_
       rw [fw_s (by omega), fw_s (by omega)]
      ·exact mac 2 q j (by omega) (drop_step hr)
    ·refine fin 1 (d :: q) _ (by rw [hc]; simp only [macN, hd, if_false]) (fun j => ?_)
     refine iF rfl ?_
     refine bS (by (try simp (disch := omega) only [fwI]); exact bg) ?_
     refine iF rfl ?_
     refine bS (by (try simp (disch := omega) only [fwI]); exact bg) ?_
     refine iF rfl ?_
     refine iF rfl ?_
     refine iF rfl ?_
     refine iF rfl ?_
     refine iT rfl ?_
     refine (jS (v := false) (fun j => ?_)).trans ?_
     ·rw [fw_s (by omega)]
      refine iT (dT (by omega)) ?_
      refine bS (by (try simp (disch := omega) only [fwI]); exact nd) ?_
      rw [dF (by omega)]
     ·refine (jS (v := ((a + 1 : Nat) : Int)) (fun j => ?_)).trans ?_
      ·refine iF rfl ?_
       rw [fw_s (by omega)]
      ·exact mac 1 (d :: q) j (by omega) hr
  rw [if_neg h63] at eo
  by_cases h3 : begN c = 3
  ·rw [if_pos h3] at eo
   rw [eo] at ol ⊢
   refine jC fun j => ?_
   refine iF rfl ?_
   refine bS (by (try simp (disch := omega) only [fwI]); exact bg) ?_
   refine iT (dT (by omega)) ?_
   refine bS (by (try simp (disch := omega) only [fwI]); exact rnumber_at (by omega) hs hl' (a := a) (by omega)) ?_
   by_cases h0 : (numN (s.drop a)).1 = 0
   ·rw [if_pos h0]
   ·rw [if_neg h0]
  rw [if_neg h3] at eo
  by_cases h12 : begN c = 1 ∨ begN c = 2
  ·rw [if_pos h12] at eo
   rw [eo] at ol ⊢
   refine (jS (v := (((if rsvN ((s.drop a).take (innN (s.drop a))) then 8 else begN c : Nat) : Int), (innN (s.drop a) : Int))) (fun j => ?_)).trans ?_
   ·refine iF rfl ?_
    refine bS (by (try simp (disch := omega) only [fwI]); exact bg) ?_
    refine iF (dF (by omega)) ?_
    refine bS (by (try simp (disch := omega) only [fwI]); exact bg) ?_
    refine iT (dT (by omega)) ?_
    refine bS (by (try simp (disch := omega) only [fwI]); exact bg) ?_
    refine bS (by (try simp (disch := omega) only [fwI]); exact rinner_at (k := k) (by omega) hs hl' (a := a) (by omega)) ?_
    rw [fw_d (n := a + innN (s.drop a)) (m := a) (by omega) (by omega), Nat.add_sub_cancel_left, fw_a (by omega) (by omega)]
    refine bS (by (try simp (disch := omega) only [fwI]); exact subMid (s := s) (i := a) (j := a + innN (s.drop a)) rfl rfl (by omega) (by omega)) ?_
    rw [List.drop_take, Nat.add_sub_cancel_left]
    refine bS (by (try simp (disch := omega) only [fwI]); exact rreserved_at (by omega) _) ?_
    cases rsvN ((s.drop a).take (innN (s.drop a))) <;> rfl
   ·exact out _ _ il
  ·rw [if_neg h12] at eo
   rw [eo] at ol ⊢
   refine (jS (v := (((9 : Nat) : Int), (lngN (s.drop a) : Int))) (fun j => ?_)).trans ?_
   ·refine iF rfl ?_
    refine bS (by (try simp (disch := omega) only [fwI]); exact bg) ?_
    refine iF (dF (by omega)) ?_
    refine bS (by (try simp (disch := omega) only [fwI]); exact bg) ?_
    refine iF (dF (by have := begN_le c; omega)) ?_
    refine iF (dF (by omega)) ?_
    refine iF (dF (by omega)) ?_
    refine iF (dF (by omega)) ?_
    refine iF (dF (by omega)) ?_
    refine bS (by (try simp (disch := omega) only [fwI]); exact rlongest_at (k := k) (by omega) hl' (a := a) (by omega)) ?_
    rfl
   ·exact out _ 9 ol
end Go.Proofs.Ytbmijiibfaacmaa.Am
set_option maxRecDepth 100000
set_option linter.unusedVariables false
set_option linter.unusedSimpArgs false
namespace Go.Proofs.Ytbmijiibfaacmaa.Am
open Go
theorem rscan_l (k : Nat) {s : List Nat} (hk : s.length + 40 < k) (hs : By s) (hl : Sz s) (h16 : s.length ≤ 65536) : ∀ (d f a : Nat) (acc : List S46), s.length < a + d → d < f → a ≤ s.length → acc.length ≤ a → g28_l5 k s f ((a + skipN (s.drop a) : Nat) : Int) acc = some (match toksN s d a with | some l => (acc ++ l.map (mkTok s), 0) | none => ([], 4))
 | 0, f, a, acc, h, hf, ha, hacc => by omega
 | d + 1, f, a, acc, h, hf, ha, hacc => by
  have hl' := hl
  unfold Sz at hl
  obtain ⟨f, rfl⟩ : ∃ f', f = f' + 1 := ⟨f - 1, by omega⟩
  rw [g28_l5_s]
  have sl := skipN_le (s.drop a)
  rw [List.length_drop] at sl
  unfold toksN
  have hab : a ≤ a + skipN (s.drop a) := Nat.le_add_right _ _
  have hbl : a + skipN (s.drop a) ≤ s.length := by omega
  generalize a + skipN (s.drop a) = b at *
  by_cases hb : s.length ≤ b
  ·rw [if_pos hb]
   refine iF (dF (by omega)) ?_
   simp only [List.map_nil, List.append_nil]
  ·rw [if_neg hb]
   refine iT (dT (by omega)) ?_
   refine bS (by (try simp (disch := omega) only [fwI]); exact rOne_at hk hs hl' (a := b) (by omega)) ?_
   have ol := oneN_le (s.drop b)
   rw [List.length_drop] at ol
   unfold oneAt
   by_cases h0 : (oneN (s.drop b)).1 = 0
   ·rw [if_pos h0, if_pos h0]; rfl
   ·rw [if_neg h0, if_neg h0]
    refine iF rfl ?_
    have ap : appS 32 acc [mkTok s ((oneN (s.drop b)).2, b, (oneN (s.drop b)).1)] = some (acc ++ [mkTok s ((oneN (s.drop b)).2, b, (oneN (s.drop b)).1)]) := by
     unfold appS
     rw [if_pos (by simp only [List.length_cons, List.length_nil]; omega)]
    refine bS (by (try simp (disch := omega) only [fwI]); exact ap) ?_
    have tl : ((s.drop b).take (oneN (s.drop b)).1).length = (oneN (s.drop b)).1 := by
     rw [List.length_take, List.length_drop]; omega
    show (g45 k s (fW .i64 ((b : Int) + (((s.drop b).take (oneN (s.drop b)).1).length : Int)))).bind _ = _
    rw [tl, fw_a (by omega) (by omega)]
    have hpos : 0 < (oneN (s.drop b)).1 := Nat.pos_of_ne_zero h0
    refine bS (by (try simp (disch := omega) only [fwI]); exact rblank_at (by omega) hs hl' (a := b + (oneN (s.drop b)).1) (by omega)) ?_
    refine (rscan_l k hk hs hl' h16 d f (b + (oneN (s.drop b)).1) _ (by omega) (by omega) (by omega) (by rw [List.length_append]; simp only [List.length_cons, List.length_nil]; omega)).trans ?_
    cases toksN s d (b + (oneN (s.drop b)).1) with
    | none => rfl
    | some l => simp only [Option.map_some, List.map_cons, List.append_assoc, List.singleton_append]
theorem rscan_at {k : Nat} {s : List Nat} (hk : s.length + 40 < k) (hs : By s) (hl : Sz s) : g28 k s = some (scanN s) := by
 have hl' := hl
 unfold Sz at hl
 unfold g28 scanN
 by_cases h16 : 65536 < s.length
 ·rw [if_pos h16]
  refine iT (dT (by omega)) rfl
 ·rw [if_neg h16]
  refine iF (dF (by omega)) ?_
  refine bS (by (try simp (disch := omega) only [fwI]); exact valid_at44 (by omega) hs hl') ?_
  cases hv : vld s.length s with
  | false => rfl
  | true =>
   refine iF rfl ?_
   have rb := rblank_at (k := k) (by omega) hs hl' (a := 0) (by omega)
   refine bS (by (try simp (disch := omega) only [fwI]); exact rb) ?_
   refine (rscan_l k hk hs hl' (by omega) (s.length + 1) k 0 [] (by omega) (by omega) (by omega) (Nat.le_refl _)).trans ?_
   simp only [Bool.true_eq_false, if_false]
   cases toksN s (s.length + 1) 0 <;> rfl
end Go.Proofs.Ytbmijiibfaacmaa.Am
set_option maxRecDepth 100000
set_option linter.unusedVariables false
namespace Go.Proofs.Ytbmijiibfaacmaa.Am
noncomputable section
open Go
def X38 : Fx Int := ⟨Try.prog, cx, Try.f38, fun r => .int .i64 r, 0, fun _ => H0, cxTi, cxOrd⟩
def g38 (k : Nat) (a0 : S46) : Option Int :=
 some (fW .i64 (a0.f2 + (a0.f1.length : Int)))
theorem g38_ok (k : Nat) (a0 : S46) (r : Int) (h : g38 k a0 = some r) : PureOk Try.prog 38 [.agg [.int .i64 a0.f0, .str a0.f1, .int .i64 a0.f2]] (.int .i64 r) := by
 refine pure_of X38 (fun _ => rfl) Try.func38 (by decide +kernel) (by kernel_rfl) (t := g38 k a0) ?_ h
 unfold g38
 refine oE (eE := [(0, .agg [.int .i64 a0.f0, .str a0.f1, .int .i64 a0.f2])]) (by kernel_rfl) ?_
 let E1 : Env := [(2, .int .i64 (fW .i64 (a0.f2 + (a0.f1.length : Int)))), (8, .int .i64 (fW .i64 (a0.f2 + (a0.f1.length : Int)))), (7, .int .i64 (a0.f1.length : Int)), (6, .str a0.f1), (5, .ptr 0 3 1), (4, .int .i64 a0.f2), (3, .ptr 0 3 2), (2, .int .i64 0), (1, .ptr 0 3 0), (0, .agg [.int .i64 a0.f0, .str a0.f1, .int .i64 a0.f2])]
 refine oR 16 (p' := .fin) (eE := E1) (H' := (mkH [⟨[.int .i64 a0.f0, .str a0.f1, .int .i64 a0.f2], 0, false⟩])) (by kernel_rfl) ?_
 exact oT (r := (fW .i64 (a0.f2 + (a0.f1.length : Int)))) (xs := [.int .i64 (fW .i64 (a0.f2 + (a0.f1.length : Int)))]) (v := .int .i64 (fW .i64 (a0.f2 + (a0.f1.length : Int)))) (by kernel_rfl) (by kernel_rfl) (by kernel_rfl) (.pures (by kernel_rfl)) (by kernel_rfl)
end
end Go.Proofs.Ytbmijiibfaacmaa.Am
set_option maxRecDepth 100000
set_option linter.unusedVariables false
namespace Go.Proofs.Ytbmijiibfaacmaa.Am
noncomputable section
open Go
def X66 : Fx Bool := ⟨Try.prog, cx, Try.f66, fun r => .bool r, 0, fun _ => H0, cxTi, cxOrd⟩
def g66p0 : Pt := nav [0] (bodyAt Try.f66)
def g66p1 : Pt := nav [0, 0, 0] g66p0
def g66 (k : Nat) (a0 : (List Nat)) (a1 : S46) : Option Bool :=
 if (decide (0 ≤ a1.f2)) then (if (decide (a1.f2 ≤ (a0.length : Int))) then (some (decide ((a1.f1.length : Int) ≤ fW .i64 ((a0.length : Int) - a1.f2)))) else (some false)) else (some false)
theorem g66_ok (k : Nat) (a0 : (List Nat)) (a1 : S46) (r : Bool) (h : g66 k a0 a1 = some r) : PureOk Try.prog 66 [.str a0, .agg [.int .i64 a1.f0, .str a1.f1, .int .i64 a1.f2]] (.bool r) := by
 refine pure_of X66 (fun _ => rfl) Try.func66 (by decide +kernel) (by kernel_rfl) (t := g66 k a0 a1) ?_ h
 unfold g66
 refine oE (eE := [(0, .str a0), (1, .agg [.int .i64 a1.f0, .str a1.f1, .int .i64 a1.f2])]) (by kernel_rfl) ?_
 let E1 : Env := [(8, .bool (decide (0 ≤ a1.f2))), (7, .bool (decide (0 ≤ a1.f2))), (6, .int .i64 a1.f2), (5, .ptr 0 3 2), (4, .bool false), (3, .ptr 0 3 0), (0, .str a0), (1, .agg [.int .i64 a1.f0, .str a1.f1, .int .i64 a1.f2])]
 refine oR 11 (p' := (atN 4 (ctl1 g66p1))) (eE := E1) (H' := (mkH [⟨[.int .i64 a1.f0, .str a1.f1, .int .i64 a1.f2], 0, false⟩])) (by kernel_rfl) ?_
 refine oS 8 (b := decide (0 ≤ a1.f2)) (by kernel_rfl) (fun hb => ?_) (fun hb => ?_)
 ·let E2 : Env := ((15, .bool (decide (a1.f2 ≤ (a0.length : Int)))) :: (14, .bool (decide (a1.f2 ≤ (a0.length : Int)))) :: (13, .bool (decide (a1.f2 ≤ (a0.length : Int)))) :: (12, .int .i64 (a0.length : Int)) :: (11, .str a0) :: (10, .int .i64 a1.f2) :: (9, .ptr 0 3 2) :: (8, .bool true) :: E1)
  refine oR 7 (p' := (atN 11 (ctl1 g66p1))) (eE := E2) (H' := (mkH [⟨[.int .i64 a1.f0, .str a1.f1, .int .i64 a1.f2], 0, false⟩])) (by kernel_rfl) ?_
  refine oS 15 (b := decide (a1.f2 ≤ (a0.length : Int))) (by kernel_rfl) (fun hb => ?_) (fun hb => ?_)
  ·let E3 : Env := ((4, .bool (decide ((a1.f1.length : Int) ≤ fW .i64 ((a0.length : Int) - a1.f2)))) :: (25, .bool (decide ((a1.f1.length : Int) ≤ fW .i64 ((a0.length : Int) - a1.f2)))) :: (24, .bool (decide ((a1.f1.length : Int) ≤ fW .i64 ((a0.length : Int) - a1.f2)))) :: (23, .int .i64 (fW .i64 ((a0.length : Int) - a1.f2))) :: (22, .int .i64 a1.f2) :: (21, .ptr 0 3 2) :: (20, .int .i64 (a0.length : Int)) :: (19, .str a0) :: (18, .int .i64 (a1.f1.length : Int)) :: (17, .str a1.f1) :: (16, .ptr 0 3 1) :: (15, .bool true) :: E2)
   refine oR 13 (p' := .fin) (eE := E3) (H' := (mkH [⟨[.int .i64 a1.f0, .str a1.f1, .int .i64 a1.f2], 0, false⟩])) (by kernel_rfl) ?_
   exact oT (r := (decide ((a1.f1.length : Int) ≤ fW .i64 ((a0.length : Int) - a1.f2)))) (xs := [.bool (decide ((a1.f1.length : Int) ≤ fW .i64 ((a0.length : Int) - a1.f2)))]) (v := .bool (decide ((a1.f1.length : Int) ≤ fW .i64 ((a0.length : Int) - a1.f2)))) (by kernel_rfl) (by kernel_rfl) (by kernel_rfl) (.pures (by kernel_rfl)) (by kernel_rfl)
  ·let E4 : Env := ((4, .bool false) :: (25, .bool false) :: (24, .tuple []) :: (23, .tuple []) :: (22, .tuple []) :: (21, .tuple []) :: (20, .tuple []) :: (19, .tuple []) :: (18, .tuple []) :: (17, .tuple []) :: (16, .tuple []) :: (15, .bool false) :: E2)
   refine oR 13 (p' := .fin) (eE := E4) (H' := (mkH [⟨[.int .i64 a1.f0, .str a1.f1, .int .i64 a1.f2], 0, false⟩])) (by kernel_rfl) ?_
   exact oT (r := false) (xs := [.bool false]) (v := .bool false) (by kernel_rfl) (by kernel_rfl) (by kernel_rfl) (.pures (by kernel_rfl)) (by kernel_rfl)
 ·let E5 : Env := ((4, .bool false) :: (25, .bool false) :: (24, .tuple []) :: (23, .tuple []) :: (22, .tuple []) :: (21, .tuple []) :: (20, .tuple []) :: (19, .tuple []) :: (18, .tuple []) :: (17, .tuple []) :: (16, .tuple []) :: (15, .bool false) :: (14, .bool false) :: (13, .tuple []) :: (12, .tuple []) :: (11, .tuple []) :: (10, .tuple []) :: (9, .tuple []) :: (8, .bool false) :: E1)
  refine oR 20 (p' := .fin) (eE := E5) (H' := (mkH [⟨[.int .i64 a1.f0, .str a1.f1, .int .i64 a1.f2], 0, false⟩])) (by kernel_rfl) ?_
  exact oT (r := false) (xs := [.bool false]) (v := .bool false) (by kernel_rfl) (by kernel_rfl) (by kernel_rfl) (.pures (by kernel_rfl)) (by kernel_rfl)
end
end Go.Proofs.Ytbmijiibfaacmaa.Am
set_option maxRecDepth 100000
set_option linter.unusedVariables false
namespace Go.Proofs.Ytbmijiibfaacmaa.Am
noncomputable section
open Go
def X49 : Fx Int := ⟨Try.prog, cx, Try.f49, fun r => .int .i64 r, 0, fun _ => H0, cxTi, cxOrd⟩
def X49f67_0 (a_0 : Int) (b_1 : Int) : Fx Int := ⟨Try.prog, cx, Try.f67, fun r => .tuple [], 1, fun r => (mkH [⟨[.int .i64 r], 1, false⟩]), cxTi, cxOrd⟩
def g49f67_0p0 : Pt := nav [0] (bodyAt Try.f67)
def g49f67_0p1 : Pt := nav [0, 0] g49f67_0p0
def g49f67_0 (k : Nat) (a_0 : Int) (b_1 : Int) : Option Int :=
 if (decide (a_0 = 10)) then (some (fW .i64 (b_1 + 1))) else (some b_1)
theorem g49f67_0_ok (k : Nat) (a_0 : Int) (b_1 : Int) (r : Int) (h : g49f67_0 k a_0 b_1 = some r) : CallV Try.prog 67 [.int .u8 a_0, .ptr 0 1 0] (mkH [⟨[.int .i64 b_1], 1, false⟩]) (.tuple []) (mkH [⟨[.int .i64 r], 1, false⟩]) := by
 refine callM_of (X49f67_0 a_0 b_1) Try.func67 (by kernel_rfl) (by kernel_rfl) rfl (t := g49f67_0 k a_0 b_1) ?_ h
 unfold g49f67_0
 refine oE (eE := [(0, .int .u8 a_0), (1, .ptr 0 1 0)]) (by kernel_rfl) ?_
 refine oR 5 (p' := g49f67_0p1) (eE := [(4, .bool (decide (a_0 = 10))), (3, .int .u8 a_0), (0, .int .u8 a_0), (1, .ptr 0 1 0)]) (H' := (mkH [⟨[.int .i64 b_1], 1, false⟩])) (by kernel_rfl) ?_
 refine oS 4 (b := decide (a_0 = 10)) (by kernel_rfl) (fun hb => ?_) (fun hb => ?_)
 ·let E1 : Env := [(6, .int .i64 (fW .i64 (b_1 + 1))), (5, .int .i64 b_1), (4, .bool true), (4, .bool (decide (a_0 = 10))), (3, .int .u8 a_0), (0, .int .u8 a_0), (1, .ptr 0 1 0)]
  refine oR 6 (p' := .fin) (eE := E1) (H' := (mkH [⟨[.int .i64 (fW .i64 (b_1 + 1))], 1, false⟩])) (by kernel_rfl) ?_
  refine oK [] (eE := []) (by kernel_rfl) ?_
  exact ok_retM (r := (fW .i64 (b_1 + 1))) (xs := []) (by kernel_rfl) (by kernel_rfl) (by kernel_rfl) (by kernel_rfl)
 ·let E2 : Env := [(4, .bool false), (4, .bool (decide (a_0 = 10))), (3, .int .u8 a_0), (0, .int .u8 a_0), (1, .ptr 0 1 0)]
  refine oR 2 (p' := .fin) (eE := E2) (H' := (mkH [⟨[.int .i64 b_1], 1, false⟩])) (by kernel_rfl) ?_
  refine oK [] (eE := []) (by kernel_rfl) ?_
  exact ok_retM (r := b_1) (xs := []) (by kernel_rfl) (by kernel_rfl) (by kernel_rfl) (by kernel_rfl)
def g49p0 : Pt := nav [0] (bodyAt Try.f49)
def g49p1 : Pt := nav [0, 0, 0, 0] g49p0
def g49p2 : Pt := nav [0] g49p1
def g49p4 : Pt := nav [2, 0, 0] g49p2
def g49p6 : Pt := nav [0, 0, 0] g49p4
def g49p7 : Pt := nav [0, 0, 0, 0] g49p6
def g49p8 : Pt := nav [0, 0, 0, 0] g49p7
def g49p9 : Pt := nav [0, 0, 0] g49p8
def g49p10 : Pt := nav [0, 0] g49p9
def g49p11 : Pt := nav [1, 0, 0, 0] g49p10
def g49p13 : Pt := nav [0, 0] g49p11
def g49_l5 (k : Nat)  (a0 : (List Nat)) (a1 : (List S46)) (a2 : Int) (n : Nat) : Int → Int → Option Int :=
 Nat.rec (motive := fun _ => Int → Int → Option Int) (fun _ _ => none) (fun _ ih => fun (y5_0 : Int) (y5_1 : Int) => (nthL a1 a2).bind fun x2_3 => if (decide (y5_0 < x2_3.f2)) then ((nthS a0 y5_0).bind fun x3_3 => (g49f67_0 k x3_3 y5_1).bind fun x3_4 => ih (fW .i64 (y5_0 + 1)) x3_4) else (some y5_1)) n
theorem g49_l5_s (k : Nat)  (a0 : (List Nat)) (a1 : (List S46)) (a2 : Int) (n : Nat) (y5_0 : Int) (y5_1 : Int) : g49_l5 k a0 a1 a2 (n + 1) y5_0 y5_1 = ((nthL a1 a2).bind fun x2_3 => if (decide (y5_0 < x2_3.f2)) then ((nthS a0 y5_0).bind fun x3_3 => (g49f67_0 k x3_3 y5_1).bind fun x3_4 => (g49_l5 k a0 a1 a2 n) (fW .i64 (y5_0 + 1)) x3_4) else (some y5_1)) := rfl
theorem g49_l5_ok (k : Nat)  (a0 : (List Nat)) (a1 : (List S46)) (a2 : Int)  : ∀ (n : Nat) (y5_0 : Int) (y5_1 : Int), Ok X49 g49p8 [(0, .str a0), (1, .vec (a1).length 3 ((a1).flatMap e47)), (2, .int .i64 a2), (7, .ptr 0 1 0), (8, .func 67 [] [.ptr 0 1 0]), (9, .int .i64 y5_0)] (mkH [⟨[.int .i64 y5_1], 1, false⟩]) (g49_l5 k a0 a1 a2 n y5_0 y5_1)
 | 0, _, _ => ok_none
 | n + 1, y5_0, y5_1 => by
  have ih := g49_l5_ok k a0 a1 a2 n
  rw [g49_l5_s]
  refine ok_ent (p' := nav [0] g49p8) (by kernel_rfl) ?_
  let E3 : Env := [(60, .int .i64 a2), (59, .vec (a1).length 3 ((a1).flatMap e47)), (58, .int .i64 y5_0), (0, .str a0), (1, .vec (a1).length 3 ((a1).flatMap e47)), (2, .int .i64 a2), (7, .ptr 0 1 0), (8, .func 67 [] [.ptr 0 1 0]), (9, .int .i64 y5_0)]
  refine oR 6 (p' := (atN 3 (ctl1 g49p9))) (eE := E3) (H' := (mkH [⟨[.int .i64 y5_1], 1, false⟩])) (by kernel_rfl) ?_
  refine oH (fun (x2_3 : S46) => (.vptr [.int .i64 x2_3.f0, .str x2_3.f1, .int .i64 x2_3.f2], (mkH [⟨[.int .i64 y5_1], 1, false⟩]))) (atN 4 (ctl1 g49p9)) (fun x2_3 => ((61, .vptr [.int .i64 x2_3.f0, .str x2_3.f1, .int .i64 x2_3.f2]) :: E3)) (vidxH (sz := 3) e47_len (by kernel_rfl)) (fun _ => by kernel_rfl) (fun x2_3 hx2_3 => ?_)
  refine oR 4 (p' := g49p10) (eE := ((64, .bool (decide (y5_0 < x2_3.f2))) :: (63, .int .i64 x2_3.f2) :: (62, .vptr [.int .i64 x2_3.f2]) :: (61, .vptr [.int .i64 x2_3.f0, .str x2_3.f1, .int .i64 x2_3.f2]) :: E3)) (H' := (mkH [⟨[.int .i64 y5_1], 1, false⟩])) (by kernel_rfl) ?_
  refine oS 64 (b := decide (y5_0 < x2_3.f2)) (by kernel_rfl) (fun hb => ?_) (fun hb => ?_)
  ·let E4 : Env := ((69, .int .i64 y5_0) :: (68, .str a0) :: (67, .func 67 [] [.ptr 0 1 0]) :: (64, .bool true) :: (64, .bool (decide (y5_0 < x2_3.f2))) :: (63, .int .i64 x2_3.f2) :: (62, .vptr [.int .i64 x2_3.f2]) :: (61, .vptr [.int .i64 x2_3.f0, .str x2_3.f1, .int .i64 x2_3.f2]) :: E3)
   refine oR 8 (p' := (atN 3 (ctl1 g49p11))) (eE := E4) (H' := (mkH [⟨[.int .i64 y5_1], 1, false⟩])) (by kernel_rfl) ?_
   refine oH (fun (x3_3 : Int) => (.int .u8 x3_3, (mkH [⟨[.int .i64 y5_1], 1, false⟩]))) (atN 4 (ctl1 g49p11)) (fun x3_3 => ((70, .int .u8 x3_3) :: E4)) (idxH (by kernel_rfl)) (fun _ => by kernel_rfl) (fun x3_3 hx3_3 => ?_)
   refine ok_callM (fun (x3_4 : Int) => .tuple []) (fun (x3_4 : Int) => (mkH [⟨[.int .i64 x3_4], 1, false⟩])) (atN 5 (ctl1 g49p11)) (fun x3_4 => ((71, .tuple []) :: (70, .int .u8 x3_3) :: E4)) (fi := 67) (args := [.int .u8 x3_3, .ptr 0 1 0]) (by kernel_rfl) (fun r h => g49f67_0_ok k x3_3 y5_1 r h) (fun _ => by kernel_rfl) (fun x3_4 hx3_4 => ?_)
   refine oR 1 (p' := g49p13) (eE := ((71, .tuple []) :: (70, .int .u8 x3_3) :: E4)) (H' := (mkH [⟨[.int .i64 x3_4], 1, false⟩])) (by kernel_rfl) ?_
   refine oK [0, 1, 2, 7, 8, 9] (eE := [(0, .str a0), (1, .vec (a1).length 3 ((a1).flatMap e47)), (2, .int .i64 a2), (7, .ptr 0 1 0), (8, .func 67 [] [.ptr 0 1 0]), (9, .int .i64 y5_0)]) (by kernel_rfl) ?_
   let E5 : Env := [(9, .int .i64 (fW .i64 (y5_0 + 1))), (66, .int .i64 (fW .i64 (y5_0 + 1))), (65, .int .i64 y5_0), (0, .str a0), (1, .vec (a1).length 3 ((a1).flatMap e47)), (2, .int .i64 a2), (7, .ptr 0 1 0), (8, .func 67 [] [.ptr 0 1 0]), (9, .int .i64 y5_0)]
   refine oR 5 (p' := g49p8) (eE := E5) (H' := (mkH [⟨[.int .i64 x3_4], 1, false⟩])) (by kernel_rfl) ?_
   refine oK [0, 1, 2, 7, 8, 9] (eE := [(0, .str a0), (1, .vec (a1).length 3 ((a1).flatMap e47)), (2, .int .i64 a2), (7, .ptr 0 1 0), (8, .func 67 [] [.ptr 0 1 0]), (9, .int .i64 (fW .i64 (y5_0 + 1)))]) (by kernel_rfl) ?_
   exact ih (fW .i64 (y5_0 + 1)) x3_4
  ·let E6 : Env := ((6, .int .i64 y5_1) :: (72, .int .i64 y5_1) :: (64, .bool false) :: (64, .bool (decide (y5_0 < x2_3.f2))) :: (63, .int .i64 x2_3.f2) :: (62, .vptr [.int .i64 x2_3.f2]) :: (61, .vptr [.int .i64 x2_3.f0, .str x2_3.f1, .int .i64 x2_3.f2]) :: E3)
   refine oR 8 (p' := .fin) (eE := E6) (H' := (mkH [⟨[.int .i64 y5_1], 1, false⟩])) (by kernel_rfl) ?_
   exact oT (r := y5_1) (xs := [.int .i64 y5_1]) (v := .int .i64 y5_1) (by kernel_rfl) (by kernel_rfl) (by kernel_rfl) (.pures (by kernel_rfl)) (by kernel_rfl)
def g49 (k : Nat) (a0 : (List Nat)) (a1 : (List S46)) (a2 : Int) : Option Int :=
 jn (fun (z4 : Bool) => if z4 then (some (0 : Int)) else ((nthL a1 (fW .i64 (a2 - 1))).bind fun x1_3 => (g38 k (⟨x1_3.f0, x1_3.f1, x1_3.f2⟩ : S46)).bind fun x1_5 => g49_l5 k a0 a1 a2 k x1_5 0)) (fun j4 => if (decide (a2 < 1)) then (j4 true) else (if (decide ((a1.length : Int) ≤ a2)) then (j4 true) else ((nthL a1 (fW .i64 (a2 - 1))).bind fun x0_13 => (g66 k a0 (⟨x0_13.f0, x0_13.f1, x0_13.f2⟩ : S46)).bind fun x0_15 => if (!x0_15) then (j4 true) else ((nthL a1 a2).bind fun x0_22 => (g66 k a0 (⟨x0_22.f0, x0_22.f1, x0_22.f2⟩ : S46)).bind fun x0_24 => if (!x0_24) then (j4 true) else ((nthL a1 (fW .i64 (a2 - 1))).bind fun x0_31 => (g38 k (⟨x0_31.f0, x0_31.f1, x0_31.f2⟩ : S46)).bind fun x0_33 => (nthL a1 a2).bind fun x0_36 => j4 (decide (x0_36.f2 < x0_33)))))))
theorem g49_ok (k : Nat) (a0 : (List Nat)) (a1 : (List S46)) (a2 : Int) (r : Int) (h : g49 k a0 a1 a2 = some r) : PureOk Try.prog 49 [.str a0, .vec (a1).length 3 ((a1).flatMap e47), .int .i64 a2] (.int .i64 r) := by
 refine pure_of X49 (fun _ => rfl) Try.func49 (by decide +kernel) (by kernel_rfl) (t := g49 k a0 a1 a2) ?_ h
 unfold g49
 refine oE (eE := [(0, .str a0), (1, .vec (a1).length 3 ((a1).flatMap e47)), (2, .int .i64 a2)]) (by kernel_rfl) ?_
 refine oR 6 (p' := g49p1) (eE := [(6, .int .i64 0), (0, .str a0), (1, .vec (a1).length 3 ((a1).flatMap e47)), (2, .int .i64 a2)]) (H' := (mkH [])) (by kernel_rfl) ?_
 refine oJ (f := fun (z4 : Bool) => if z4 then (some (0 : Int)) else ((nthL a1 (fW .i64 (a2 - 1))).bind fun x1_3 => (g38 k (⟨x1_3.f0, x1_3.f1, x1_3.f2⟩ : S46)).bind fun x1_5 => g49_l5 k a0 a1 a2 k x1_5 0)) g49p2 (fun (z4 : Bool) => [(0, .str a0), (1, .vec (a1).length 3 ((a1).flatMap e47)), (2, .int .i64 a2), (50, .bool z4)]) (fun (z4 : Bool) => (mkH [])) (fun z4 => ?_) (fun j4 hj4 => ?_)
 ·refine oS 50 (b := z4) (by kernel_rfl) (fun hb => ?_) (fun hb => ?_)
  ·let E1 : Env := [(6, .int .i64 0), (50, .bool true), (0, .str a0), (1, .vec (a1).length 3 ((a1).flatMap e47)), (2, .int .i64 a2), (50, .bool z4)]
   refine oR 6 (p' := .fin) (eE := E1) (H' := (mkH [])) (by kernel_rfl) ?_
   exact oT (r := (0 : Int)) (xs := [.int .i64 0]) (v := .int .i64 0) (by kernel_rfl) (by kernel_rfl) (by kernel_rfl) (.pures (by kernel_rfl)) (by kernel_rfl)
  ·let E2 : Env := [(54, .int .i64 (fW .i64 (a2 - 1))), (53, .int .i64 a2), (52, .vec (a1).length 3 ((a1).flatMap e47)), (8, .func 67 [] [.ptr 0 1 0]), (51, .func 67 [] [.ptr 0 1 0]), (7, .ptr 0 1 0), (50, .bool false), (0, .str a0), (1, .vec (a1).length 3 ((a1).flatMap e47)), (2, .int .i64 a2), (50, .bool z4)]
   refine oR 18 (p' := (atN 3 (ctl1 g49p7))) (eE := E2) (H' := (mkH [⟨[.int .i64 0], 1, false⟩])) (by kernel_rfl) ?_
   refine oH (fun (x1_3 : S46) => (.vptr [.int .i64 x1_3.f0, .str x1_3.f1, .int .i64 x1_3.f2], (mkH [⟨[.int .i64 0], 1, false⟩]))) (atN 4 (ctl1 g49p7)) (fun x1_3 => ((55, .vptr [.int .i64 x1_3.f0, .str x1_3.f1, .int .i64 x1_3.f2]) :: E2)) (vidxH (sz := 3) e47_len (by kernel_rfl)) (fun _ => by kernel_rfl) (fun x1_3 hx1_3 => ?_)
   refine oR 1 (p' := (atN 5 (ctl1 g49p7))) (eE := ((56, .agg [.int .i64 x1_3.f0, .str x1_3.f1, .int .i64 x1_3.f2]) :: (55, .vptr [.int .i64 x1_3.f0, .str x1_3.f1, .int .i64 x1_3.f2]) :: E2)) (H' := (mkH [⟨[.int .i64 0], 1, false⟩])) (by kernel_rfl) ?_
   refine oC (fun (x1_5 : Int) => .int .i64 x1_5) (atN 6 (ctl1 g49p7)) (fun x1_5 => ((57, .int .i64 x1_5) :: (56, .agg [.int .i64 x1_3.f0, .str x1_3.f1, .int .i64 x1_3.f2]) :: (55, .vptr [.int .i64 x1_3.f0, .str x1_3.f1, .int .i64 x1_3.f2]) :: E2)) (fi := 38) (args := [.agg [.int .i64 x1_3.f0, .str x1_3.f1, .int .i64 x1_3.f2]]) (by kernel_rfl) (by kernel_rfl) (fun _ => by kernel_rfl) (fun r h => g38_ok k (⟨x1_3.f0, x1_3.f1, x1_3.f2⟩ : S46) r h) (fun _ => by kernel_rfl) (fun x1_5 hx1_5 => ?_)
   refine oR 4 (p' := g49p8) (eE := ((9, .int .i64 x1_5) :: (57, .int .i64 x1_5) :: (56, .agg [.int .i64 x1_3.f0, .str x1_3.f1, .int .i64 x1_3.f2]) :: (55, .vptr [.int .i64 x1_3.f0, .str x1_3.f1, .int .i64 x1_3.f2]) :: E2)) (H' := (mkH [⟨[.int .i64 0], 1, false⟩])) (by kernel_rfl) ?_
   refine oK [0, 1, 2, 7, 8, 9] (eE := [(0, .str a0), (1, .vec (a1).length 3 ((a1).flatMap e47)), (2, .int .i64 a2), (7, .ptr 0 1 0), (8, .func 67 [] [.ptr 0 1 0]), (9, .int .i64 x1_5)]) (by kernel_rfl) ?_
   exact (g49_l5_ok k a0 a1 a2 k) x1_5 0
 ·refine ok_if (fun hb4 => ?_) (fun hb4 => ?_)
  ·let E7 : Env := [(12, .bool (decide (a2 < 1))), (11, .bool (decide (a2 < 1))), (10, .int .i64 a2), (6, .int .i64 0), (0, .str a0), (1, .vec (a1).length 3 ((a1).flatMap e47)), (2, .int .i64 a2)]
   let E8 : Env := [(50, .bool true), (49, .tuple []), (48, .tuple []), (47, .tuple []), (46, .tuple []), (45, .tuple []), (44, .tuple []), (43, .tuple []), (42, .tuple []), (41, .tuple []), (40, .tuple []), (39, .tuple []), (38, .tuple []), (37, .bool true), (36, .bool true), (35, .tuple []), (34, .tuple []), (33, .tuple []), (32, .tuple []), (31, .tuple []), (30, .tuple []), (29, .tuple []), (28, .bool true), (27, .bool true), (26, .tuple []), (25, .tuple []), (24, .tuple []), (23, .tuple []), (22, .tuple []), (21, .tuple []), (20, .tuple []), (19, .tuple []), (18, .bool true), (17, .bool true), (16, .tuple []), (15, .tuple []), (14, .tuple []), (13, .tuple []), (12, .bool true), (11, .bool true), (10, .int .i64 a2), (6, .int .i64 0), (0, .str a0), (1, .vec (a1).length 3 ((a1).flatMap e47)), (2, .int .i64 a2)]
   refine ok_draw (p' := nav [0] g49p1) (eE := E8) (H' := (mkH [])) (hs := [(mkH []), (mkH []), (mkH [])]) [(0, 0, 0), (1, 0, 0), (3, 0, 0), (7, 0, 0), (7, 0, 0), (23, 0, 0), (63, 0, 0), (127, 0, 0), (255, 0, 0), (511, 0, 0), (511, 0, 0), (511, 0, 0), (2559, 0, 0), (7679, 0, 0), (15871, 0, 0), (32767, 0, 0), (65535, 0, 0), (131071, 0, 0), (262143, 0, 0), (524287, 0, 0), (524287, 0, 0), (524287, 0, 0), (3670015, 0, 0), (7864319, 1, 1), (16777215, 0, 0), (33554431, 0, 0), (67108863, 0, 0), (134217727, 0, 0), (268435455, 0, 0), (268435455, 0, 0), (805306367, 0, 0), (2147483647, 0, 0), (4294967295, 2, 2), (8589934591, 0, 0), (268435455, 0, 0), (268435455, 0, 0), (51808043007, 0, 0), (120527519743, 0, 0), (257966473215, 2, 3), (549755813887, 0, 0), (1099511627775, 0, 0)] (by kernel_rfl) (by kernel_rfl) (by kernel_rfl) (opsD_run 3 (l' := (opsAt g49p1).toList.drop 3) (eE := E7) (H' := (mkH [])) (hs := []) (by kernel_rfl) (opsD_env (eE := [(12, .bool true), (11, .bool true), (10, .int .i64 a2), (6, .int .i64 0), (0, .str a0), (1, .vec (a1).length 3 ((a1).flatMap e47)), (2, .int .i64 a2)]) (congrArg (fun z : Bool => ([(12, .bool z), (11, .bool z), (10, .int .i64 a2), (6, .int .i64 0), (0, .str a0), (1, .vec (a1).length 3 ((a1).flatMap e47)), (2, .int .i64 a2)] : Env)) hb4) (opsD_run 38 (l' := (opsAt g49p1).toList.drop 41) (eE := E8) (H' := (mkH [])) (hs := [(mkH []), (mkH []), (mkH [])]) (by kernel_rfl) (.nil)))) (by kernel_rfl) (by kernel_rfl) (by kernel_rfl) ?_
   refine oK [0, 1, 2, 50] (eE := [(0, .str a0), (1, .vec (a1).length 3 ((a1).flatMap e47)), (2, .int .i64 a2), (50, .bool true)]) (by kernel_rfl) ?_
   exact hj4 true
  ·refine ok_if (fun hb5 => ?_) (fun hb5 => ?_)
   ·let E7 : Env := [(12, .bool (decide (a2 < 1))), (11, .bool (decide (a2 < 1))), (10, .int .i64 a2), (6, .int .i64 0), (0, .str a0), (1, .vec (a1).length 3 ((a1).flatMap e47)), (2, .int .i64 a2)]
    let E9 : Env := [(18, .bool (decide ((a1.length : Int) ≤ a2))), (17, .bool (decide ((a1.length : Int) ≤ a2))), (16, .bool (decide ((a1.length : Int) ≤ a2))), (15, .int .i64 (a1.length : Int)), (14, .vec (a1).length 3 ((a1).flatMap e47)), (13, .int .i64 a2), (12, .bool false), (11, .bool false), (10, .int .i64 a2), (6, .int .i64 0), (0, .str a0), (1, .vec (a1).length 3 ((a1).flatMap e47)), (2, .int .i64 a2)]
    let E10 : Env := [(50, .bool true), (49, .tuple []), (48, .tuple []), (47, .tuple []), (46, .tuple []), (45, .tuple []), (44, .tuple []), (43, .tuple []), (42, .tuple []), (41, .tuple []), (40, .tuple []), (39, .tuple []), (38, .tuple []), (37, .bool true), (36, .bool true), (35, .tuple []), (34, .tuple []), (33, .tuple []), (32, .tuple []), (31, .tuple []), (30, .tuple []), (29, .tuple []), (28, .bool true), (27, .bool true), (26, .tuple []), (25, .tuple []), (24, .tuple []), (23, .tuple []), (22, .tuple []), (21, .tuple []), (20, .tuple []), (19, .tuple []), (18, .bool true), (17, .bool true), (16, .bool true), (15, .int .i64 (a1.length : Int)), (14, .vec (a1).length 3 ((a1).flatMap e47)), (13, .int .i64 a2), (12, .bool false), (11, .bool false), (10, .int .i64 a2), (6, .int .i64 0), (0, .str a0), (1, .vec (a1).length 3 ((a1).flatMap e47)), (2, .int .i64 a2)]
    refine ok_draw (p' := nav [0] g49p1) (eE := E10) (H' := (mkH [])) (hs := [(mkH []), (mkH []), (mkH [])]) [(0, 0, 0), (1, 0, 0), (3, 0, 0), (7, 0, 0), (7, 0, 0), (23, 0, 0), (63, 0, 0), (127, 0, 0), (255, 0, 0), (511, 0, 0), (511, 0, 0), (511, 0, 0), (2559, 0, 0), (7679, 0, 0), (15871, 0, 0), (32767, 0, 0), (65535, 0, 0), (131071, 0, 0), (262143, 0, 0), (524287, 0, 0), (524287, 0, 0), (524287, 0, 0), (3670015, 0, 0), (7864319, 1, 1), (16777215, 0, 0), (33554431, 0, 0), (67108863, 0, 0), (134217727, 0, 0), (268435455, 0, 0), (268435455, 0, 0), (805306367, 0, 0), (2147483647, 0, 0), (4294967295, 2, 2), (8589934591, 0, 0), (268435455, 0, 0), (268435455, 0, 0), (51808043007, 0, 0), (120527519743, 0, 0), (257966473215, 2, 3), (549755813887, 0, 0), (1099511627775, 0, 0)] (by kernel_rfl) (by kernel_rfl) (by kernel_rfl) (opsD_run 3 (l' := (opsAt g49p1).toList.drop 3) (eE := E7) (H' := (mkH [])) (hs := []) (by kernel_rfl) (opsD_env (eE := [(12, .bool false), (11, .bool false), (10, .int .i64 a2), (6, .int .i64 0), (0, .str a0), (1, .vec (a1).length 3 ((a1).flatMap e47)), (2, .int .i64 a2)]) (congrArg (fun z : Bool => ([(12, .bool z), (11, .bool z), (10, .int .i64 a2), (6, .int .i64 0), (0, .str a0), (1, .vec (a1).length 3 ((a1).flatMap e47)), (2, .int .i64 a2)] : Env)) hb4) (opsD_run 6 (l' := (opsAt g49p1).toList.drop 9) (eE := E9) (H' := (mkH [])) (hs := []) (by kernel_rfl) (opsD_env (eE := [(18, .bool true), (17, .bool true), (16, .bool true), (15, .int .i64 (a1.length : Int)), (14, .vec (a1).length 3 ((a1).flatMap e47)), (13, .int .i64 a2), (12, .bool false), (11, .bool false), (10, .int .i64 a2), (6, .int .i64 0), (0, .str a0), (1, .vec (a1).length 3 ((a1).flatMap e47)), (2, .int .i64 a2)]) (congrArg (fun z : Bool => ([(18, .bool z), (17, .bool z), (16, .bool z), (15, .int .i64 (a1.length : Int)), (14, .vec (a1).length 3 ((a1).flatMap e47)), (13, .int .i64 a2), (12, .bool false), (11, .bool false), (10, .int .i64 a2), (6, .int .i64 0), (0, .str a0), (1, .vec (a1).length 3 ((a1).flatMap e47)), (2, .int .i64 a2)] : Env)) hb5) (opsD_run 32 (l' := (opsAt g49p1).toList.drop 41) (eE := E10) (H' := (mkH [])) (hs := [(mkH []), (mkH []), (mkH [])]) (by kernel_rfl) (.nil)))))) (by kernel_rfl) (by kernel_rfl) (by kernel_rfl) ?_
    refine oK [0, 1, 2, 50] (eE := [(0, .str a0), (1, .vec (a1).length 3 ((a1).flatMap e47)), (2, .int .i64 a2), (50, .bool true)]) (by kernel_rfl) ?_
    exact hj4 true
   ·refine ok_bind (fun x0_13 hx0_13 => ?_)
    refine ok_bind (fun x0_15 hx0_15 => ?_)
    refine ok_if (fun hb6 => ?_) (fun hb6 => ?_)
    ·let E7 : Env := [(12, .bool (decide (a2 < 1))), (11, .bool (decide (a2 < 1))), (10, .int .i64 a2), (6, .int .i64 0), (0, .str a0), (1, .vec (a1).length 3 ((a1).flatMap e47)), (2, .int .i64 a2)]
     let E9 : Env := [(18, .bool (decide ((a1.length : Int) ≤ a2))), (17, .bool (decide ((a1.length : Int) ≤ a2))), (16, .bool (decide ((a1.length : Int) ≤ a2))), (15, .int .i64 (a1.length : Int)), (14, .vec (a1).length 3 ((a1).flatMap e47)), (13, .int .i64 a2), (12, .bool false), (11, .bool false), (10, .int .i64 a2), (6, .int .i64 0), (0, .str a0), (1, .vec (a1).length 3 ((a1).flatMap e47)), (2, .int .i64 a2)]
     let E11 : Env := [(22, .int .i64 (fW .i64 (a2 - 1))), (21, .int .i64 a2), (20, .vec (a1).length 3 ((a1).flatMap e47)), (19, .str a0), (18, .bool false), (17, .bool false), (16, .bool false), (15, .int .i64 (a1.length : Int)), (14, .vec (a1).length 3 ((a1).flatMap e47)), (13, .int .i64 a2), (12, .bool false), (11, .bool false), (10, .int .i64 a2), (6, .int .i64 0), (0, .str a0), (1, .vec (a1).length 3 ((a1).flatMap e47)), (2, .int .i64 a2)]
     let E12 : Env := ((28, .bool (!x0_15)) :: (27, .bool (!x0_15)) :: (26, .bool (!x0_15)) :: (25, .bool x0_15) :: (24, .agg [.int .i64 x0_13.f0, .str x0_13.f1, .int .i64 x0_13.f2]) :: (23, .vptr [.int .i64 x0_13.f0, .str x0_13.f1, .int .i64 x0_13.f2]) :: E11)
     let E13 : Env := [(50, .bool true), (49, .tuple []), (48, .tuple []), (47, .tuple []), (46, .tuple []), (45, .tuple []), (44, .tuple []), (43, .tuple []), (42, .tuple []), (41, .tuple []), (40, .tuple []), (39, .tuple []), (38, .tuple []), (37, .bool true), (36, .bool true), (35, .tuple []), (34, .tuple []), (33, .tuple []), (32, .tuple []), (31, .tuple []), (30, .tuple []), (29, .tuple []), (28, .bool true), (27, .bool true), (26, .bool true), (25, .bool x0_15), (24, .agg [.int .i64 x0_13.f0, .str x0_13.f1, .int .i64 x0_13.f2]), (23, .vptr [.int .i64 x0_13.f0, .str x0_13.f1, .int .i64 x0_13.f2]), (22, .int .i64 (fW .i64 (a2 - 1))), (21, .int .i64 a2), (20, .vec (a1).length 3 ((a1).flatMap e47)), (19, .str a0), (18, .bool false), (17, .bool false), (16, .bool false), (15, .int .i64 (a1.length : Int)), (14, .vec (a1).length 3 ((a1).flatMap e47)), (13, .int .i64 a2), (12, .bool false), (11, .bool false), (10, .int .i64 a2), (6, .int .i64 0), (0, .str a0), (1, .vec (a1).length 3 ((a1).flatMap e47)), (2, .int .i64 a2)]
     refine ok_draw (p' := nav [0] g49p1) (eE := E13) (H' := (mkH [])) (hs := [(mkH []), (mkH []), (mkH [])]) [(0, 0, 0), (1, 0, 0), (3, 0, 0), (7, 0, 0), (7, 0, 0), (23, 0, 0), (63, 0, 0), (127, 0, 0), (255, 0, 0), (511, 0, 0), (511, 0, 0), (511, 0, 0), (2559, 0, 0), (7679, 0, 0), (15871, 0, 0), (32767, 0, 0), (65535, 0, 0), (131071, 0, 0), (262143, 0, 0), (524287, 0, 0), (524287, 0, 0), (524287, 0, 0), (3670015, 0, 0), (7864319, 1, 1), (16777215, 0, 0), (33554431, 0, 0), (67108863, 0, 0), (134217727, 0, 0), (268435455, 0, 0), (268435455, 0, 0), (805306367, 0, 0), (2147483647, 0, 0), (4294967295, 2, 2), (8589934591, 0, 0), (268435455, 0, 0), (268435455, 0, 0), (51808043007, 0, 0), (120527519743, 0, 0), (257966473215, 2, 3), (549755813887, 0, 0), (1099511627775, 0, 0)] (by kernel_rfl) (by kernel_rfl) (by kernel_rfl) (opsD_run 3 (l' := (opsAt g49p1).toList.drop 3) (eE := E7) (H' := (mkH [])) (hs := []) (by kernel_rfl) (opsD_env (eE := [(12, .bool false), (11, .bool false), (10, .int .i64 a2), (6, .int .i64 0), (0, .str a0), (1, .vec (a1).length 3 ((a1).flatMap e47)), (2, .int .i64 a2)]) (congrArg (fun z : Bool => ([(12, .bool z), (11, .bool z), (10, .int .i64 a2), (6, .int .i64 0), (0, .str a0), (1, .vec (a1).length 3 ((a1).flatMap e47)), (2, .int .i64 a2)] : Env)) hb4) (opsD_run 6 (l' := (opsAt g49p1).toList.drop 9) (eE := E9) (H' := (mkH [])) (hs := []) (by kernel_rfl) (opsD_env (eE := [(18, .bool false), (17, .bool false), (16, .bool false), (15, .int .i64 (a1.length : Int)), (14, .vec (a1).length 3 ((a1).flatMap e47)), (13, .int .i64 a2), (12, .bool false), (11, .bool false), (10, .int .i64 a2), (6, .int .i64 0), (0, .str a0), (1, .vec (a1).length 3 ((a1).flatMap e47)), (2, .int .i64 a2)]) (congrArg (fun z : Bool => ([(18, .bool z), (17, .bool z), (16, .bool z), (15, .int .i64 (a1.length : Int)), (14, .vec (a1).length 3 ((a1).flatMap e47)), (13, .int .i64 a2), (12, .bool false), (11, .bool false), (10, .int .i64 a2), (6, .int .i64 0), (0, .str a0), (1, .vec (a1).length 3 ((a1).flatMap e47)), (2, .int .i64 a2)] : Env)) hb5) (opsD_run 4 (l' := (opsAt g49p1).toList.drop 13) (eE := E11) (H' := (mkH [])) (hs := []) (by kernel_rfl) (opsD_chk (l' := (opsAt g49p1).toList.drop 14) (eE := ((23, .vptr [.int .i64 x0_13.f0, .str x0_13.f1, .int .i64 x0_13.f2]) :: E11)) (hs := []) (x := x0_13) (fun (x0_13 : S46) => (.vptr [.int .i64 x0_13.f0, .str x0_13.f1, .int .i64 x0_13.f2], (mkH []))) (vidxH (sz := 3) e47_len (by kernel_rfl)) hx0_13 (by kernel_rfl) (opsD_run 1 (l' := (opsAt g49p1).toList.drop 15) (eE := ((24, .agg [.int .i64 x0_13.f0, .str x0_13.f1, .int .i64 x0_13.f2]) :: (23, .vptr [.int .i64 x0_13.f0, .str x0_13.f1, .int .i64 x0_13.f2]) :: E11)) (H' := (mkH [])) (hs := []) (by kernel_rfl) (opsD_call (l' := (opsAt g49p1).toList.drop 16) (eE := ((25, .bool x0_15) :: (24, .agg [.int .i64 x0_13.f0, .str x0_13.f1, .int .i64 x0_13.f2]) :: (23, .vptr [.int .i64 x0_13.f0, .str x0_13.f1, .int .i64 x0_13.f2]) :: E11)) (hs := [(mkH [])]) (fi := 66) (args := [.str a0, .agg [.int .i64 x0_13.f0, .str x0_13.f1, .int .i64 x0_13.f2]]) (v := .bool x0_15) (by kernel_rfl) (by kernel_rfl) (by kernel_rfl) (g66_ok k a0 (⟨x0_13.f0, x0_13.f1, x0_13.f2⟩ : S46) x0_15 hx0_15) (by kernel_rfl) (opsD_run 3 (l' := (opsAt g49p1).toList.drop 19) (eE := E12) (H' := (mkH [])) (hs := []) (by kernel_rfl) (opsD_env (eE := [(28, .bool true), (27, .bool true), (26, .bool true), (25, .bool x0_15), (24, .agg [.int .i64 x0_13.f0, .str x0_13.f1, .int .i64 x0_13.f2]), (23, .vptr [.int .i64 x0_13.f0, .str x0_13.f1, .int .i64 x0_13.f2]), (22, .int .i64 (fW .i64 (a2 - 1))), (21, .int .i64 a2), (20, .vec (a1).length 3 ((a1).flatMap e47)), (19, .str a0), (18, .bool false), (17, .bool false), (16, .bool false), (15, .int .i64 (a1.length : Int)), (14, .vec (a1).length 3 ((a1).flatMap e47)), (13, .int .i64 a2), (12, .bool false), (11, .bool false), (10, .int .i64 a2), (6, .int .i64 0), (0, .str a0), (1, .vec (a1).length 3 ((a1).flatMap e47)), (2, .int .i64 a2)]) (congrArg (fun z : Bool => ([(28, .bool z), (27, .bool z), (26, .bool z), (25, .bool x0_15), (24, .agg [.int .i64 x0_13.f0, .str x0_13.f1, .int .i64 x0_13.f2]), (23, .vptr [.int .i64 x0_13.f0, .str x0_13.f1, .int .i64 x0_13.f2]), (22, .int .i64 (fW .i64 (a2 - 1))), (21, .int .i64 a2), (20, .vec (a1).length 3 ((a1).flatMap e47)), (19, .str a0), (18, .bool false), (17, .bool false), (16, .bool false), (15, .int .i64 (a1.length : Int)), (14, .vec (a1).length 3 ((a1).flatMap e47)), (13, .int .i64 a2), (12, .bool false), (11, .bool false), (10, .int .i64 a2), (6, .int .i64 0), (0, .str a0), (1, .vec (a1).length 3 ((a1).flatMap e47)), (2, .int .i64 a2)] : Env)) hb6) (opsD_run 22 (l' := (opsAt g49p1).toList.drop 41) (eE := E13) (H' := (mkH [])) (hs := [(mkH []), (mkH [])]) (by kernel_rfl) (.nil)))))))))))) (by kernel_rfl) (by kernel_rfl) (by kernel_rfl) ?_
     refine oK [0, 1, 2, 50] (eE := [(0, .str a0), (1, .vec (a1).length 3 ((a1).flatMap e47)), (2, .int .i64 a2), (50, .bool true)]) (by kernel_rfl) ?_
     exact hj4 true
    ·refine ok_bind (fun x0_22 hx0_22 => ?_)
     refine ok_bind (fun x0_24 hx0_24 => ?_)
     refine ok_if (fun hb7 => ?_) (fun hb7 => ?_)
     ·let E7 : Env := [(12, .bool (decide (a2 < 1))), (11, .bool (decide (a2 < 1))), (10, .int .i64 a2), (6, .int .i64 0), (0, .str a0), (1, .vec (a1).length 3 ((a1).flatMap e47)), (2, .int .i64 a2)]
      let E9 : Env := [(18, .bool (decide ((a1.length : Int) ≤ a2))), (17, .bool (decide ((a1.length : Int) ≤ a2))), (16, .bool (decide ((a1.length : Int) ≤ a2))), (15, .int .i64 (a1.length : Int)), (14, .vec (a1).length 3 ((a1).flatMap e47)), (13, .int .i64 a2), (12, .bool false), (11, .bool false), (10, .int .i64 a2), (6, .int .i64 0), (0, .str a0), (1, .vec (a1).length 3 ((a1).flatMap e47)), (2, .int .i64 a2)]
      let E11 : Env := [(22, .int .i64 (fW .i64 (a2 - 1))), (21, .int .i64 a2), (20, .vec (a1).length 3 ((a1).flatMap e47)), (19, .str a0), (18, .bool false), (17, .bool false), (16, .bool false), (15, .int .i64 (a1.length : Int)), (14, .vec (a1).length 3 ((a1).flatMap e47)), (13, .int .i64 a2), (12, .bool false), (11, .bool false), (10, .int .i64 a2), (6, .int .i64 0), (0, .str a0), (1, .vec (a1).length 3 ((a1).flatMap e47)), (2, .int .i64 a2)]
      let E12 : Env := ((28, .bool (!x0_15)) :: (27, .bool (!x0_15)) :: (26, .bool (!x0_15)) :: (25, .bool x0_15) :: (24, .agg [.int .i64 x0_13.f0, .str x0_13.f1, .int .i64 x0_13.f2]) :: (23, .vptr [.int .i64 x0_13.f0, .str x0_13.f1, .int .i64 x0_13.f2]) :: E11)
      let E14 : Env := [(31, .int .i64 a2), (30, .vec (a1).length 3 ((a1).flatMap e47)), (29, .str a0), (28, .bool false), (27, .bool false), (26, .bool false), (25, .bool x0_15), (24, .agg [.int .i64 x0_13.f0, .str x0_13.f1, .int .i64 x0_13.f2]), (23, .vptr [.int .i64 x0_13.f0, .str x0_13.f1, .int .i64 x0_13.f2]), (22, .int .i64 (fW .i64 (a2 - 1))), (21, .int .i64 a2), (20, .vec (a1).length 3 ((a1).flatMap e47)), (19, .str a0), (18, .bool false), (17, .bool false), (16, .bool false), (15, .int .i64 (a1.length : Int)), (14, .vec (a1).length 3 ((a1).flatMap e47)), (13, .int .i64 a2), (12, .bool false), (11, .bool false), (10, .int .i64 a2), (6, .int .i64 0), (0, .str a0), (1, .vec (a1).length 3 ((a1).flatMap e47)), (2, .int .i64 a2)]
      let E15 : Env := ((37, .bool (!x0_24)) :: (36, .bool (!x0_24)) :: (35, .bool (!x0_24)) :: (34, .bool x0_24) :: (33, .agg [.int .i64 x0_22.f0, .str x0_22.f1, .int .i64 x0_22.f2]) :: (32, .vptr [.int .i64 x0_22.f0, .str x0_22.f1, .int .i64 x0_22.f2]) :: E14)
      let E16 : Env := [(50, .bool true), (49, .tuple []), (48, .tuple []), (47, .tuple []), (46, .tuple []), (45, .tuple []), (44, .tuple []), (43, .tuple []), (42, .tuple []), (41, .tuple []), (40, .tuple []), (39, .tuple []), (38, .tuple []), (37, .bool true), (36, .bool true), (35, .bool true), (34, .bool x0_24), (33, .agg [.int .i64 x0_22.f0, .str x0_22.f1, .int .i64 x0_22.f2]), (32, .vptr [.int .i64 x0_22.f0, .str x0_22.f1, .int .i64 x0_22.f2]), (31, .int .i64 a2), (30, .vec (a1).length 3 ((a1).flatMap e47)), (29, .str a0), (28, .bool false), (27, .bool false), (26, .bool false), (25, .bool x0_15), (24, .agg [.int .i64 x0_13.f0, .str x0_13.f1, .int .i64 x0_13.f2]), (23, .vptr [.int .i64 x0_13.f0, .str x0_13.f1, .int .i64 x0_13.f2]), (22, .int .i64 (fW .i64 (a2 - 1))), (21, .int .i64 a2), (20, .vec (a1).length 3 ((a1).flatMap e47)), (19, .str a0), (18, .bool false), (17, .bool false), (16, .bool false), (15, .int .i64 (a1.length : Int)), (14, .vec (a1).length 3 ((a1).flatMap e47)), (13, .int .i64 a2), (12, .bool false), (11, .bool false), (10, .int .i64 a2), (6, .int .i64 0), (0, .str a0), (1, .vec (a1).length 3 ((a1).flatMap e47)), (2, .int .i64 a2)]
      refine ok_draw (p' := nav [0] g49p1) (eE := E16) (H' := (mkH [])) (hs := [(mkH []), (mkH []), (mkH [])]) [(0, 0, 0), (1, 0, 0), (3, 0, 0), (7, 0, 0), (7, 0, 0), (23, 0, 0), (63, 0, 0), (127, 0, 0), (255, 0, 0), (511, 0, 0), (511, 0, 0), (511, 0, 0), (2559, 0, 0), (7679, 0, 0), (15871, 0, 0), (32767, 0, 0), (65535, 0, 0), (131071, 0, 0), (262143, 0, 0), (524287, 0, 0), (524287, 0, 0), (524287, 0, 0), (3670015, 0, 0), (7864319, 1, 1), (16777215, 0, 0), (33554431, 0, 0), (67108863, 0, 0), (134217727, 0, 0), (268435455, 0, 0), (268435455, 0, 0), (805306367, 0, 0), (2147483647, 0, 0), (4294967295, 2, 2), (8589934591, 0, 0), (268435455, 0, 0), (268435455, 0, 0), (51808043007, 0, 0), (120527519743, 0, 0), (257966473215, 2, 3), (549755813887, 0, 0), (1099511627775, 0, 0)] (by kernel_rfl) (by kernel_rfl) (by kernel_rfl) (opsD_run 3 (l' := (opsAt g49p1).toList.drop 3) (eE := E7) (H' := (mkH [])) (hs := []) (by kernel_rfl) (opsD_env (eE := [(12, .bool false), (11, .bool false), (10, .int .i64 a2), (6, .int .i64 0), (0, .str a0), (1, .vec (a1).length 3 ((a1).flatMap e47)), (2, .int .i64 a2)]) (congrArg (fun z : Bool => ([(12, .bool z), (11, .bool z), (10, .int .i64 a2), (6, .int .i64 0), (0, .str a0), (1, .vec (a1).length 3 ((a1).flatMap e47)), (2, .int .i64 a2)] : Env)) hb4) (opsD_run 6 (l' := (opsAt g49p1).toList.drop 9) (eE := E9) (H' := (mkH [])) (hs := []) (by kernel_rfl) (opsD_env (eE := [(18, .bool false), (17, .bool false), (16, .bool false), (15, .int .i64 (a1.length : Int)), (14, .vec (a1).length 3 ((a1).flatMap e47)), (13, .int .i64 a2), (12, .bool false), (11, .bool false), (10, .int .i64 a2), (6, .int .i64 0), (0, .str a0), (1, .vec (a1).length 3 ((a1).flatMap e47)), (2, .int .i64 a2)]) (congrArg (fun z : Bool => ([(18, .bool z), (17, .bool z), (16, .bool z), (15, .int .i64 (a1.length : Int)), (14, .vec (a1).length 3 ((a1).flatMap e47)), (13, .int .i64 a2), (12, .bool false), (11, .bool false), (10, .int .i64 a2), (6, .int .i64 0), (0, .str a0), (1, .vec (a1).length 3 ((a1).flatMap e47)), (2, .int .i64 a2)] : Env)) hb5) (opsD_run 4 (l' := (opsAt g49p1).toList.drop 13) (eE := E11) (H' := (mkH [])) (hs := []) (by kernel_rfl) (opsD_chk (l' := (opsAt g49p1).toList.drop 14) (eE := ((23, .vptr [.int .i64 x0_13.f0, .str x0_13.f1, .int .i64 x0_13.f2]) :: E11)) (hs := []) (x := x0_13) (fun (x0_13 : S46) => (.vptr [.int .i64 x0_13.f0, .str x0_13.f1, .int .i64 x0_13.f2], (mkH []))) (vidxH (sz := 3) e47_len (by kernel_rfl)) hx0_13 (by kernel_rfl) (opsD_run 1 (l' := (opsAt g49p1).toList.drop 15) (eE := ((24, .agg [.int .i64 x0_13.f0, .str x0_13.f1, .int .i64 x0_13.f2]) :: (23, .vptr [.int .i64 x0_13.f0, .str x0_13.f1, .int .i64 x0_13.f2]) :: E11)) (H' := (mkH [])) (hs := []) (by kernel_rfl) (opsD_call (l' := (opsAt g49p1).toList.drop 16) (eE := ((25, .bool x0_15) :: (24, .agg [.int .i64 x0_13.f0, .str x0_13.f1, .int .i64 x0_13.f2]) :: (23, .vptr [.int .i64 x0_13.f0, .str x0_13.f1, .int .i64 x0_13.f2]) :: E11)) (hs := [(mkH [])]) (fi := 66) (args := [.str a0, .agg [.int .i64 x0_13.f0, .str x0_13.f1, .int .i64 x0_13.f2]]) (v := .bool x0_15) (by kernel_rfl) (by kernel_rfl) (by kernel_rfl) (g66_ok k a0 (⟨x0_13.f0, x0_13.f1, x0_13.f2⟩ : S46) x0_15 hx0_15) (by kernel_rfl) (opsD_run 3 (l' := (opsAt g49p1).toList.drop 19) (eE := E12) (H' := (mkH [])) (hs := []) (by kernel_rfl) (opsD_env (eE := [(28, .bool false), (27, .bool false), (26, .bool false), (25, .bool x0_15), (24, .agg [.int .i64 x0_13.f0, .str x0_13.f1, .int .i64 x0_13.f2]), (23, .vptr [.int .i64 x0_13.f0, .str x0_13.f1, .int .i64 x0_13.f2]), (22, .int .i64 (fW .i64 (a2 - 1))), (21, .int .i64 a2), (20, .vec (a1).length 3 ((a1).flatMap e47)), (19, .str a0), (18, .bool false), (17, .bool false), (16, .bool false), (15, .int .i64 (a1.length : Int)), (14, .vec (a1).length 3 ((a1).flatMap e47)), (13, .int .i64 a2), (12, .bool false), (11, .bool false), (10, .int .i64 a2), (6, .int .i64 0), (0, .str a0), (1, .vec (a1).length 3 ((a1).flatMap e47)), (2, .int .i64 a2)]) (congrArg (fun z : Bool => ([(28, .bool z), (27, .bool z), (26, .bool z), (25, .bool x0_15), (24, .agg [.int .i64 x0_13.f0, .str x0_13.f1, .int .i64 x0_13.f2]), (23, .vptr [.int .i64 x0_13.f0, .str x0_13.f1, .int .i64 x0_13.f2]), (22, .int .i64 (fW .i64 (a2 - 1))), (21, .int .i64 a2), (20, .vec (a1).length 3 ((a1).flatMap e47)), (19, .str a0), (18, .bool false), (17, .bool false), (16, .bool false), (15, .int .i64 (a1.length : Int)), (14, .vec (a1).length 3 ((a1).flatMap e47)), (13, .int .i64 a2), (12, .bool false), (11, .bool false), (10, .int .i64 a2), (6, .int .i64 0), (0, .str a0), (1, .vec (a1).length 3 ((a1).flatMap e47)), (2, .int .i64 a2)] : Env)) hb6) (opsD_run 3 (l' := (opsAt g49p1).toList.drop 22) (eE := E14) (H' := (mkH [])) (hs := []) (by kernel_rfl) (opsD_chk (l' := (opsAt g49p1).toList.drop 23) (eE := ((32, .vptr [.int .i64 x0_22.f0, .str x0_22.f1, .int .i64 x0_22.f2]) :: E14)) (hs := []) (x := x0_22) (fun (x0_22 : S46) => (.vptr [.int .i64 x0_22.f0, .str x0_22.f1, .int .i64 x0_22.f2], (mkH []))) (vidxH (sz := 3) e47_len (by kernel_rfl)) hx0_22 (by kernel_rfl) (opsD_run 1 (l' := (opsAt g49p1).toList.drop 24) (eE := ((33, .agg [.int .i64 x0_22.f0, .str x0_22.f1, .int .i64 x0_22.f2]) :: (32, .vptr [.int .i64 x0_22.f0, .str x0_22.f1, .int .i64 x0_22.f2]) :: E14)) (H' := (mkH [])) (hs := []) (by kernel_rfl) (opsD_call (l' := (opsAt g49p1).toList.drop 25) (eE := ((34, .bool x0_24) :: (33, .agg [.int .i64 x0_22.f0, .str x0_22.f1, .int .i64 x0_22.f2]) :: (32, .vptr [.int .i64 x0_22.f0, .str x0_22.f1, .int .i64 x0_22.f2]) :: E14)) (hs := [(mkH [])]) (fi := 66) (args := [.str a0, .agg [.int .i64 x0_22.f0, .str x0_22.f1, .int .i64 x0_22.f2]]) (v := .bool x0_24) (by kernel_rfl) (by kernel_rfl) (by kernel_rfl) (g66_ok k a0 (⟨x0_22.f0, x0_22.f1, x0_22.f2⟩ : S46) x0_24 hx0_24) (by kernel_rfl) (opsD_run 3 (l' := (opsAt g49p1).toList.drop 28) (eE := E15) (H' := (mkH [])) (hs := []) (by kernel_rfl) (opsD_env (eE := [(37, .bool true), (36, .bool true), (35, .bool true), (34, .bool x0_24), (33, .agg [.int .i64 x0_22.f0, .str x0_22.f1, .int .i64 x0_22.f2]), (32, .vptr [.int .i64 x0_22.f0, .str x0_22.f1, .int .i64 x0_22.f2]), (31, .int .i64 a2), (30, .vec (a1).length 3 ((a1).flatMap e47)), (29, .str a0), (28, .bool false), (27, .bool false), (26, .bool false), (25, .bool x0_15), (24, .agg [.int .i64 x0_13.f0, .str x0_13.f1, .int .i64 x0_13.f2]), (23, .vptr [.int .i64 x0_13.f0, .str x0_13.f1, .int .i64 x0_13.f2]), (22, .int .i64 (fW .i64 (a2 - 1))), (21, .int .i64 a2), (20, .vec (a1).length 3 ((a1).flatMap e47)), (19, .str a0), (18, .bool false), (17, .bool false), (16, .bool false), (15, .int .i64 (a1.length : Int)), (14, .vec (a1).length 3 ((a1).flatMap e47)), (13, .int .i64 a2), (12, .bool false), (11, .bool false), (10, .int .i64 a2), (6, .int .i64 0), (0, .str a0), (1, .vec (a1).length 3 ((a1).flatMap e47)), (2, .int .i64 a2)]) (congrArg (fun z : Bool => ([(37, .bool z), (36, .bool z), (35, .bool z), (34, .bool x0_24), (33, .agg [.int .i64 x0_22.f0, .str x0_22.f1, .int .i64 x0_22.f2]), (32, .vptr [.int .i64 x0_22.f0, .str x0_22.f1, .int .i64 x0_22.f2]), (31, .int .i64 a2), (30, .vec (a1).length 3 ((a1).flatMap e47)), (29, .str a0), (28, .bool false), (27, .bool false), (26, .bool false), (25, .bool x0_15), (24, .agg [.int .i64 x0_13.f0, .str x0_13.f1, .int .i64 x0_13.f2]), (23, .vptr [.int .i64 x0_13.f0, .str x0_13.f1, .int .i64 x0_13.f2]), (22, .int .i64 (fW .i64 (a2 - 1))), (21, .int .i64 a2), (20, .vec (a1).length 3 ((a1).flatMap e47)), (19, .str a0), (18, .bool false), (17, .bool false), (16, .bool false), (15, .int .i64 (a1.length : Int)), (14, .vec (a1).length 3 ((a1).flatMap e47)), (13, .int .i64 a2), (12, .bool false), (11, .bool false), (10, .int .i64 a2), (6, .int .i64 0), (0, .str a0), (1, .vec (a1).length 3 ((a1).flatMap e47)), (2, .int .i64 a2)] : Env)) hb7) (opsD_run 13 (l' := (opsAt g49p1).toList.drop 41) (eE := E16) (H' := (mkH [])) (hs := [(mkH [])]) (by kernel_rfl) (.nil)))))))))))))))))) (by kernel_rfl) (by kernel_rfl) (by kernel_rfl) ?_
      refine oK [0, 1, 2, 50] (eE := [(0, .str a0), (1, .vec (a1).length 3 ((a1).flatMap e47)), (2, .int .i64 a2), (50, .bool true)]) (by kernel_rfl) ?_
      exact hj4 true
     ·refine ok_bind (fun x0_31 hx0_31 => ?_)
      refine ok_bind (fun x0_33 hx0_33 => ?_)
      refine ok_bind (fun x0_36 hx0_36 => ?_)
      let E7 : Env := [(12, .bool (decide (a2 < 1))), (11, .bool (decide (a2 < 1))), (10, .int .i64 a2), (6, .int .i64 0), (0, .str a0), (1, .vec (a1).length 3 ((a1).flatMap e47)), (2, .int .i64 a2)]
      let E9 : Env := [(18, .bool (decide ((a1.length : Int) ≤ a2))), (17, .bool (decide ((a1.length : Int) ≤ a2))), (16, .bool (decide ((a1.length : Int) ≤ a2))), (15, .int .i64 (a1.length : Int)), (14, .vec (a1).length 3 ((a1).flatMap e47)), (13, .int .i64 a2), (12, .bool false), (11, .bool false), (10, .int .i64 a2), (6, .int .i64 0), (0, .str a0), (1, .vec (a1).length 3 ((a1).flatMap e47)), (2, .int .i64 a2)]
      let E11 : Env := [(22, .int .i64 (fW .i64 (a2 - 1))), (21, .int .i64 a2), (20, .vec (a1).length 3 ((a1).flatMap e47)), (19, .str a0), (18, .bool false), (17, .bool false), (16, .bool false), (15, .int .i64 (a1.length : Int)), (14, .vec (a1).length 3 ((a1).flatMap e47)), (13, .int .i64 a2), (12, .bool false), (11, .bool false), (10, .int .i64 a2), (6, .int .i64 0), (0, .str a0), (1, .vec (a1).length 3 ((a1).flatMap e47)), (2, .int .i64 a2)]
      let E12 : Env := ((28, .bool (!x0_15)) :: (27, .bool (!x0_15)) :: (26, .bool (!x0_15)) :: (25, .bool x0_15) :: (24, .agg [.int .i64 x0_13.f0, .str x0_13.f1, .int .i64 x0_13.f2]) :: (23, .vptr [.int .i64 x0_13.f0, .str x0_13.f1, .int .i64 x0_13.f2]) :: E11)
      let E14 : Env := [(31, .int .i64 a2), (30, .vec (a1).length 3 ((a1).flatMap e47)), (29, .str a0), (28, .bool false), (27, .bool false), (26, .bool false), (25, .bool x0_15), (24, .agg [.int .i64 x0_13.f0, .str x0_13.f1, .int .i64 x0_13.f2]), (23, .vptr [.int .i64 x0_13.f0, .str x0_13.f1, .int .i64 x0_13.f2]), (22, .int .i64 (fW .i64 (a2 - 1))), (21, .int .i64 a2), (20, .vec (a1).length 3 ((a1).flatMap e47)), (19, .str a0), (18, .bool false), (17, .bool false), (16, .bool false), (15, .int .i64 (a1.length : Int)), (14, .vec (a1).length 3 ((a1).flatMap e47)), (13, .int .i64 a2), (12, .bool false), (11, .bool false), (10, .int .i64 a2), (6, .int .i64 0), (0, .str a0), (1, .vec (a1).length 3 ((a1).flatMap e47)), (2, .int .i64 a2)]
      let E15 : Env := ((37, .bool (!x0_24)) :: (36, .bool (!x0_24)) :: (35, .bool (!x0_24)) :: (34, .bool x0_24) :: (33, .agg [.int .i64 x0_22.f0, .str x0_22.f1, .int .i64 x0_22.f2]) :: (32, .vptr [.int .i64 x0_22.f0, .str x0_22.f1, .int .i64 x0_22.f2]) :: E14)
      let E17 : Env := [(40, .int .i64 (fW .i64 (a2 - 1))), (39, .int .i64 a2), (38, .vec (a1).length 3 ((a1).flatMap e47)), (37, .bool false), (36, .bool false), (35, .bool false), (34, .bool x0_24), (33, .agg [.int .i64 x0_22.f0, .str x0_22.f1, .int .i64 x0_22.f2]), (32, .vptr [.int .i64 x0_22.f0, .str x0_22.f1, .int .i64 x0_22.f2]), (31, .int .i64 a2), (30, .vec (a1).length 3 ((a1).flatMap e47)), (29, .str a0), (28, .bool false), (27, .bool false), (26, .bool false), (25, .bool x0_15), (24, .agg [.int .i64 x0_13.f0, .str x0_13.f1, .int .i64 x0_13.f2]), (23, .vptr [.int .i64 x0_13.f0, .str x0_13.f1, .int .i64 x0_13.f2]), (22, .int .i64 (fW .i64 (a2 - 1))), (21, .int .i64 a2), (20, .vec (a1).length 3 ((a1).flatMap e47)), (19, .str a0), (18, .bool false), (17, .bool false), (16, .bool false), (15, .int .i64 (a1.length : Int)), (14, .vec (a1).length 3 ((a1).flatMap e47)), (13, .int .i64 a2), (12, .bool false), (11, .bool false), (10, .int .i64 a2), (6, .int .i64 0), (0, .str a0), (1, .vec (a1).length 3 ((a1).flatMap e47)), (2, .int .i64 a2)]
      let E18 : Env := ((45, .int .i64 a2) :: (44, .vec (a1).length 3 ((a1).flatMap e47)) :: (43, .int .i64 x0_33) :: (42, .agg [.int .i64 x0_31.f0, .str x0_31.f1, .int .i64 x0_31.f2]) :: (41, .vptr [.int .i64 x0_31.f0, .str x0_31.f1, .int .i64 x0_31.f2]) :: E17)
      let E19 : Env := ((50, .bool (decide (x0_36.f2 < x0_33))) :: (49, .bool (decide (x0_36.f2 < x0_33))) :: (48, .int .i64 x0_36.f2) :: (47, .vptr [.int .i64 x0_36.f2]) :: (46, .vptr [.int .i64 x0_36.f0, .str x0_36.f1, .int .i64 x0_36.f2]) :: E18)
      refine ok_draw (p' := nav [0] g49p1) (eE := E19) (H' := (mkH [])) (hs := [(mkH []), (mkH []), (mkH [])]) [(0, 0, 0), (1, 0, 0), (3, 0, 0), (7, 0, 0), (7, 0, 0), (23, 0, 0), (63, 0, 0), (127, 0, 0), (255, 0, 0), (511, 0, 0), (511, 0, 0), (511, 0, 0), (2559, 0, 0), (7679, 0, 0), (15871, 0, 0), (32767, 0, 0), (65535, 0, 0), (131071, 0, 0), (262143, 0, 0), (524287, 0, 0), (524287, 0, 0), (524287, 0, 0), (3670015, 0, 0), (7864319, 1, 1), (16777215, 0, 0), (33554431, 0, 0), (67108863, 0, 0), (134217727, 0, 0), (268435455, 0, 0), (268435455, 0, 0), (805306367, 0, 0), (2147483647, 0, 0), (4294967295, 2, 2), (8589934591, 0, 0), (268435455, 0, 0), (268435455, 0, 0), (51808043007, 0, 0), (120527519743, 0, 0), (257966473215, 2, 3), (549755813887, 0, 0), (1099511627775, 0, 0)] (by kernel_rfl) (by kernel_rfl) (by kernel_rfl) (opsD_run 3 (l' := (opsAt g49p1).toList.drop 3) (eE := E7) (H' := (mkH [])) (hs := []) (by kernel_rfl) (opsD_env (eE := [(12, .bool false), (11, .bool false), (10, .int .i64 a2), (6, .int .i64 0), (0, .str a0), (1, .vec (a1).length 3 ((a1).flatMap e47)), (2, .int .i64 a2)]) (congrArg (fun z : Bool => ([(12, .bool z), (11, .bool z), (10, .int .i64 a2), (6, .int .i64 0), (0, .str a0), (1, .vec (a1).length 3 ((a1).flatMap e47)), (2, .int .i64 a2)] : Env)) hb4) (opsD_run 6 (l' := (opsAt g49p1).toList.drop 9) (eE := E9) (H' := (mkH [])) (hs := []) (by kernel_rfl) (opsD_env (eE := [(18, .bool false), (17, .bool false), (16, .bool false), (15, .int .i64 (a1.length : Int)), (14, .vec (a1).length 3 ((a1).flatMap e47)), (13, .int .i64 a2), (12, .bool false), (11, .bool false), (10, .int .i64 a2), (6, .int .i64 0), (0, .str a0), (1, .vec (a1).length 3 ((a1).flatMap e47)), (2, .int .i64 a2)]) (congrArg (fun z : Bool => ([(18, .bool z), (17, .bool z), (16, .bool z), (15, .int .i64 (a1.length : Int)), (14, .vec (a1).length 3 ((a1).flatMap e47)), (13, .int .i64 a2), (12, .bool false), (11, .bool false), (10, .int .i64 a2), (6, .int .i64 0), (0, .str a0), (1, .vec (a1).length 3 ((a1).flatMap e47)), (2, .int .i64 a2)] : Env)) hb5) (opsD_run 4 (l' := (opsAt g49p1).toList.drop 13) (eE := E11) (H' := (mkH [])) (hs := []) (by kernel_rfl) (opsD_chk (l' := (opsAt g49p1).toList.drop 14) (eE := ((23, .vptr [.int .i64 x0_13.f0, .str x0_13.f1, .int .i64 x0_13.f2]) :: E11)) (hs := []) (x := x0_13) (fun (x0_13 : S46) => (.vptr [.int .i64 x0_13.f0, .str x0_13.f1, .int .i64 x0_13.f2], (mkH []))) (vidxH (sz := 3) e47_len (by kernel_rfl)) hx0_13 (by kernel_rfl) (opsD_run 1 (l' := (opsAt g49p1).toList.drop 15) (eE := ((24, .agg [.int .i64 x0_13.f0, .str x0_13.f1, .int .i64 x0_13.f2]) :: (23, .vptr [.int .i64 x0_13.f0, .str x0_13.f1, .int .i64 x0_13.f2]) :: E11)) (H' := (mkH [])) (hs := []) (by kernel_rfl) (opsD_call (l' := (opsAt g49p1).toList.drop 16) (eE := ((25, .bool x0_15) :: (24, .agg [.int .i64 x0_13.f0, .str x0_13.f1, .int .i64 x0_13.f2]) :: (23, .vptr [.int .i64 x0_13.f0, .str x0_13.f1, .int .i64 x0_13.f2]) :: E11)) (hs := [(mkH [])]) (fi := 66) (args := [.str a0, .agg [.int .i64 x0_13.f0, .str x0_13.f1, .int .i64 x0_13.f2]]) (v := .bool x0_15) (by kernel_rfl) (by kernel_rfl) (by kernel_rfl) (g66_ok k a0 (⟨x0_13.f0, x0_13.f1, x0_13.f2⟩ : S46) x0_15 hx0_15) (by kernel_rfl) (opsD_run 3 (l' := (opsAt g49p1).toList.drop 19) (eE := E12) (H' := (mkH [])) (hs := []) (by kernel_rfl) (opsD_env (eE := [(28, .bool false), (27, .bool false), (26, .bool false), (25, .bool x0_15), (24, .agg [.int .i64 x0_13.f0, .str x0_13.f1, .int .i64 x0_13.f2]), (23, .vptr [.int .i64 x0_13.f0, .str x0_13.f1, .int .i64 x0_13.f2]), (22, .int .i64 (fW .i64 (a2 - 1))), (21, .int .i64 a2), (20, .vec (a1).length 3 ((a1).flatMap e47)), (19, .str a0), (18, .bool false), (17, .bool false), (16, .bool false), (15, .int .i64 (a1.length : Int)), (14, .vec (a1).length 3 ((a1).flatMap e47)), (13, .int .i64 a2), (12, .bool false), (11, .bool false), (10, .int .i64 a2), (6, .int .i64 0), (0, .str a0), (1, .vec (a1).length 3 ((a1).flatMap e47)), (2, .int .i64 a2)]) (congrArg (fun z : Bool => ([(28, .bool z), (27, .bool z), (26, .bool z), (25, .bool x0_15), (24, .agg [.int .i64 x0_13.f0, .str x0_13.f1, .int .i64 x0_13.f2]), (23, .vptr [.int .i64 x0_13.f0, .str x0_13.f1, .int .i64 x0_13.f2]), (22, .int .i64 (fW .i64 (a2 - 1))), (21, .int .i64 a2), (20, .vec (a1).length 3 ((a1).flatMap e47)), (19, .str a0), (18, .bool false), (17, .bool false), (16, .bool false), (15, .int .i64 (a1.length : Int)), (14, .vec (a1).length 3 ((a1).flatMap e47)), (13, .int .i64 a2), (12, .bool false), (11, .bool false), (10, .int .i64 a2), (6, .int .i64 0), (0, .str a0), (1, .vec (a1).length 3 ((a1).flatMap e47)), (2, .int .i64 a2)] : Env)) hb6) (opsD_run 3 (l' := (opsAt g49p1).toList.drop 22) (eE := E14) (H' := (mkH [])) (hs := []) (by kernel_rfl) (opsD_chk (l' := (opsAt g49p1).toList.drop 23) (eE := ((32, .vptr [.int .i64 x0_22.f0, .str x0_22.f1, .int .i64 x0_22.f2]) :: E14)) (hs := []) (x := x0_22) (fun (x0_22 : S46) => (.vptr [.int .i64 x0_22.f0, .str x0_22.f1, .int .i64 x0_22.f2], (mkH []))) (vidxH (sz := 3) e47_len (by kernel_rfl)) hx0_22 (by kernel_rfl) (opsD_run 1 (l' := (opsAt g49p1).toList.drop 24) (eE := ((33, .agg [.int .i64 x0_22.f0, .str x0_22.f1, .int .i64 x0_22.f2]) :: (32, .vptr [.int .i64 x0_22.f0, .str x0_22.f1, .int .i64 x0_22.f2]) :: E14)) (H' := (mkH [])) (hs := []) (by kernel_rfl) (opsD_call (l' := (opsAt g49p1).toList.drop 25) (eE := ((34, .bool x0_24) :: (33, .agg [.int .i64 x0_22.f0, .str x0_22.f1, .int .i64 x0_22.f2]) :: (32, .vptr [.int .i64 x0_22.f0, .str x0_22.f1, .int .i64 x0_22.f2]) :: E14)) (hs := [(mkH [])]) (fi := 66) (args := [.str a0, .agg [.int .i64 x0_22.f0, .str x0_22.f1, .int .i64 x0_22.f2]]) (v := .bool x0_24) (by kernel_rfl) (by kernel_rfl) (by kernel_rfl) (g66_ok k a0 (⟨x0_22.f0, x0_22.f1, x0_22.f2⟩ : S46) x0_24 hx0_24) (by kernel_rfl) (opsD_run 3 (l' := (opsAt g49p1).toList.drop 28) (eE := E15) (H' := (mkH [])) (hs := []) (by kernel_rfl) (opsD_env (eE := [(37, .bool false), (36, .bool false), (35, .bool false), (34, .bool x0_24), (33, .agg [.int .i64 x0_22.f0, .str x0_22.f1, .int .i64 x0_22.f2]), (32, .vptr [.int .i64 x0_22.f0, .str x0_22.f1, .int .i64 x0_22.f2]), (31, .int .i64 a2), (30, .vec (a1).length 3 ((a1).flatMap e47)), (29, .str a0), (28, .bool false), (27, .bool false), (26, .bool false), (25, .bool x0_15), (24, .agg [.int .i64 x0_13.f0, .str x0_13.f1, .int .i64 x0_13.f2]), (23, .vptr [.int .i64 x0_13.f0, .str x0_13.f1, .int .i64 x0_13.f2]), (22, .int .i64 (fW .i64 (a2 - 1))), (21, .int .i64 a2), (20, .vec (a1).length 3 ((a1).flatMap e47)), (19, .str a0), (18, .bool false), (17, .bool false), (16, .bool false), (15, .int .i64 (a1.length : Int)), (14, .vec (a1).length 3 ((a1).flatMap e47)), (13, .int .i64 a2), (12, .bool false), (11, .bool false), (10, .int .i64 a2), (6, .int .i64 0), (0, .str a0), (1, .vec (a1).length 3 ((a1).flatMap e47)), (2, .int .i64 a2)]) (congrArg (fun z : Bool => ([(37, .bool z), (36, .bool z), (35, .bool z), (34, .bool x0_24), (33, .agg [.int .i64 x0_22.f0, .str x0_22.f1, .int .i64 x0_22.f2]), (32, .vptr [.int .i64 x0_22.f0, .str x0_22.f1, .int .i64 x0_22.f2]), (31, .int .i64 a2), (30, .vec (a1).length 3 ((a1).flatMap e47)), (29, .str a0), (28, .bool false), (27, .bool false), (26, .bool false), (25, .bool x0_15), (24, .agg [.int .i64 x0_13.f0, .str x0_13.f1, .int .i64 x0_13.f2]), (23, .vptr [.int .i64 x0_13.f0, .str x0_13.f1, .int .i64 x0_13.f2]), (22, .int .i64 (fW .i64 (a2 - 1))), (21, .int .i64 a2), (20, .vec (a1).length 3 ((a1).flatMap e47)), (19, .str a0), (18, .bool false), (17, .bool false), (16, .bool false), (15, .int .i64 (a1.length : Int)), (14, .vec (a1).length 3 ((a1).flatMap e47)), (13, .int .i64 a2), (12, .bool false), (11, .bool false), (10, .int .i64 a2), (6, .int .i64 0), (0, .str a0), (1, .vec (a1).length 3 ((a1).flatMap e47)), (2, .int .i64 a2)] : Env)) hb7) (opsD_run 3 (l' := (opsAt g49p1).toList.drop 31) (eE := E17) (H' := (mkH [])) (hs := []) (by kernel_rfl) (opsD_chk (l' := (opsAt g49p1).toList.drop 32) (eE := ((41, .vptr [.int .i64 x0_31.f0, .str x0_31.f1, .int .i64 x0_31.f2]) :: E17)) (hs := []) (x := x0_31) (fun (x0_31 : S46) => (.vptr [.int .i64 x0_31.f0, .str x0_31.f1, .int .i64 x0_31.f2], (mkH []))) (vidxH (sz := 3) e47_len (by kernel_rfl)) hx0_31 (by kernel_rfl) (opsD_run 1 (l' := (opsAt g49p1).toList.drop 33) (eE := ((42, .agg [.int .i64 x0_31.f0, .str x0_31.f1, .int .i64 x0_31.f2]) :: (41, .vptr [.int .i64 x0_31.f0, .str x0_31.f1, .int .i64 x0_31.f2]) :: E17)) (H' := (mkH [])) (hs := []) (by kernel_rfl) (opsD_call (l' := (opsAt g49p1).toList.drop 34) (eE := ((43, .int .i64 x0_33) :: (42, .agg [.int .i64 x0_31.f0, .str x0_31.f1, .int .i64 x0_31.f2]) :: (41, .vptr [.int .i64 x0_31.f0, .str x0_31.f1, .int .i64 x0_31.f2]) :: E17)) (hs := [(mkH [])]) (fi := 38) (args := [.agg [.int .i64 x0_31.f0, .str x0_31.f1, .int .i64 x0_31.f2]]) (v := .int .i64 x0_33) (by kernel_rfl) (by kernel_rfl) (by kernel_rfl) (g38_ok k (⟨x0_31.f0, x0_31.f1, x0_31.f2⟩ : S46) x0_33 hx0_33) (by kernel_rfl) (opsD_run 2 (l' := (opsAt g49p1).toList.drop 36) (eE := E18) (H' := (mkH [])) (hs := []) (by kernel_rfl) (opsD_chk (l' := (opsAt g49p1).toList.drop 37) (eE := ((46, .vptr [.int .i64 x0_36.f0, .str x0_36.f1, .int .i64 x0_36.f2]) :: E18)) (hs := []) (x := x0_36) (fun (x0_36 : S46) => (.vptr [.int .i64 x0_36.f0, .str x0_36.f1, .int .i64 x0_36.f2], (mkH []))) (vidxH (sz := 3) e47_len (by kernel_rfl)) hx0_36 (by kernel_rfl) (opsD_run 4 (l' := (opsAt g49p1).toList.drop 41) (eE := E19) (H' := (mkH [])) (hs := []) (by kernel_rfl) (.nil)))))))))))))))))))))))) (by kernel_rfl) (by kernel_rfl) (by kernel_rfl) ?_
      refine oK [0, 1, 2, 50] (eE := [(0, .str a0), (1, .vec (a1).length 3 ((a1).flatMap e47)), (2, .int .i64 a2), (50, .bool (decide (x0_36.f2 < x0_33)))]) (by kernel_rfl) ?_
      exact hj4 (decide (x0_36.f2 < x0_33))
end
end Go.Proofs.Ytbmijiibfaacmaa.Am
set_option maxRecDepth 100000
set_option linter.unusedVariables false
namespace Go.Proofs.Ytbmijiibfaacmaa.Am
noncomputable section
open Go
def X37 : Fx Bool := ⟨Try.prog, cx, Try.f37, fun r => .bool r, 0, fun _ => H0, cxTi, cxOrd⟩
def g37p0 : Pt := nav [0] (bodyAt Try.f37)
def g37p1 : Pt := nav [0, 0, 0] g37p0
def g37 (k : Nat) (a0 : (List Nat)) (a1 : (List S46)) (a2 : Int) : Option Bool :=
 (g49 k a0 a1 a2).bind fun x0_3 => some (decide (1 < x0_3))
theorem g37_ok (k : Nat) (a0 : (List Nat)) (a1 : (List S46)) (a2 : Int) (r : Bool) (h : g37 k a0 a1 a2 = some r) : PureOk Try.prog 37 [.str a0, .vec (a1).length 3 ((a1).flatMap e47), .int .i64 a2] (.bool r) := by
 refine pure_of X37 (fun _ => rfl) Try.func37 (by decide +kernel) (by kernel_rfl) (t := g37 k a0 a1 a2) ?_ h
 unfold g37
 refine oE (eE := [(0, .str a0), (1, .vec (a1).length 3 ((a1).flatMap e47)), (2, .int .i64 a2)]) (by kernel_rfl) ?_
 let E1 : Env := [(9, .int .i64 a2), (8, .vec (a1).length 3 ((a1).flatMap e47)), (7, .str a0), (6, .bool false), (0, .str a0), (1, .vec (a1).length 3 ((a1).flatMap e47)), (2, .int .i64 a2)]
 refine oR 9 (p' := (atN 3 (ctl1 g37p1))) (eE := E1) (H' := (mkH [])) (by kernel_rfl) ?_
 refine oC (fun (x0_3 : Int) => .int .i64 x0_3) (atN 4 (ctl1 g37p1)) (fun x0_3 => ((10, .int .i64 x0_3) :: E1)) (fi := 49) (args := [.str a0, .vec (a1).length 3 ((a1).flatMap e47), .int .i64 a2]) (by kernel_rfl) (by kernel_rfl) (fun _ => by kernel_rfl) (fun r h => g49_ok k a0 a1 a2 r h) (fun _ => by kernel_rfl) (fun x0_3 hx0_3 => ?_)
 refine oR 4 (p' := .fin) (eE := ((6, .bool (decide (1 < x0_3))) :: (11, .bool (decide (1 < x0_3))) :: (10, .int .i64 x0_3) :: E1)) (H' := (mkH [])) (by kernel_rfl) ?_
 exact oT (r := (decide (1 < x0_3))) (xs := [.bool (decide (1 < x0_3))]) (v := .bool (decide (1 < x0_3))) (by kernel_rfl) (by kernel_rfl) (by kernel_rfl) (.pures (by kernel_rfl)) (by kernel_rfl)
end
end Go.Proofs.Ytbmijiibfaacmaa.Am
set_option maxRecDepth 100000
set_option linter.unusedVariables false
set_option linter.unusedSimpArgs false
namespace Go.Proofs.Ytbmijiibfaacmaa.Am
open Go
def nlF (s : List Nat) (e : Nat) : Nat → Nat → Nat
 | 0, _ => 0
 | d + 1, i => if e ≤ i then 0 else (match s.drop i with | c :: _ => if c = 10 then 1 else 0 | [] => 0) + nlF s e d (i + 1)
def gapN (s : List Nat) (l : List (Nat × Nat × Nat)) (k : Nat) : Nat := match l.drop (k - 1) with | x :: y :: _ => nlF s y.2.1 (y.2.1 - (x.2.1 + x.2.2)) (x.2.1 + x.2.2) | _ => 0
def gapI (s : List Nat) (l : List (Nat × Nat × Nat)) (k : Int) : Nat := if 1 ≤ k ∧ k < l.length then gapN s l k.toNat else 0
theorem toks_pair {s : List Nat} : ∀ {l : List (Nat × Nat × Nat)} {a i : Nat} {x y : Nat × Nat × Nat} {r : List (Nat × Nat × Nat)}, Toks s a l → l.drop i = x :: y :: r → x.2.1 + x.2.2 ≤ y.2.1
 | [], a, i, x, y, r, h, hd => by simp at hd
 | z :: l, a, 0, x, y, r, h, hd => by
  rw [List.drop_zero] at hd
  obtain ⟨rfl, rfl⟩ := List.cons.inj hd
  simp only [Toks] at h
  omega
 | z :: l, a, i + 1, x, y, r, h, hd => by
  rw [List.drop_succ_cons] at hd
  simp only [Toks] at h
  exact toks_pair h.2.2.2.2 hd
theorem map_drop' {α β : Type} {f : α → β} {l : List α} {i : Nat} {x : α} {r : List α} (h : l.drop i = x :: r) : nthL (l.map f) (i : Int) = some (f x) := by
 refine nthL_at (r := r.map f) ?_
 rw [← List.map_drop, h]; rfl
theorem pair_at {l : List (Nat × Nat × Nat)} {k : Nat} (h1 : 1 ≤ k) (h2 : k < l.length) : ∃ x y r, l.drop (k - 1) = x :: y :: r ∧ l.drop k = y :: r ∧ x ∈ l ∧ y ∈ l := by
 obtain ⟨x, r, hx, hr, hxm, -⟩ := dconsL (s := l) (i := k - 1) (by omega)
 obtain ⟨y, r2, hy, -, hym, -⟩ := dconsL (s := l) (i := k) h2
 rw [show k - 1 + 1 = k by omega, hy] at hr
 exact ⟨x, y, r2, by rw [hx, ← hr], hy, hxm, hym⟩
theorem tok_end {s : List Nat} {x : Nat × Nat × Nat} (h : x.2.1 + x.2.2 ≤ s.length) : (mkTok s x).f2 + ((mkTok s x).f1.length : Int) = ((x.2.1 + x.2.2 : Nat) : Int) := by
 have : ((s.drop x.2.1).take x.2.2).length = x.2.2 := by rw [List.length_take, List.length_drop]; omega
 show (x.2.1 : Int) + (((s.drop x.2.1).take x.2.2).length : Int) = _
 rw [this]; push_cast; rfl
theorem ends_l (k : Nat) {s : List Nat} (hl : s.length ≤ 2000) {L : List S46} {kk : Int} {y : Nat × Nat × Nat} (hk : nthL L kk = some (mkTok s y)) (hy : y.2.1 ≤ s.length) : ∀ (d f i c : Nat), i + d = y.2.1 → d < f → c ≤ i →
 g49_l5 k s L kk f (i : Int) (c : Int) = some ((c + nlF s y.2.1 d i : Nat) : Int)
 | 0, f, i, c, h, hf, hc => by
  obtain ⟨f, rfl⟩ : ∃ g, f = g + 1 := ⟨f - 1, by omega⟩
  rw [g49_l5_s]
  refine bS (by (try simp (disch := omega) only [fwI]); exact hk) ?_
  refine iF (dF (show ¬ (i : Int) < (y.2.1 : Int) by omega)) ?_
  rfl
 | d + 1, f, i, c, h, hf, hc => by
  obtain ⟨f, rfl⟩ : ∃ g, f = g + 1 := ⟨f - 1, by omega⟩
  rw [g49_l5_s]
  refine bS (by (try simp (disch := omega) only [fwI]); exact hk) ?_
  obtain ⟨b, r, hb, -, -, -⟩ := dcons (s := s) (i := i) (by omega)
  have nb := nthX (x := (i : Int)) rfl hb
  refine iT (dT (show (i : Int) < (y.2.1 : Int) by omega)) ?_
  refine bS (by (try simp (disch := omega) only [fwI]); exact nb) ?_
  have gc : g49f67_0 k (b : Int) (c : Int) = some ((c + (if b = 10 then 1 else 0) : Nat) : Int) := by
   unfold g49f67_0
   by_cases h10 : b = 10
   ·rw [if_pos h10]
    refine iT (dT (by omega)) ?_
    rw [fw_s (by omega)]
   ·rw [if_neg h10]
    exact iF (dF (by omega)) rfl
  refine bS (by (try simp (disch := omega) only [fwI]); exact gc) ?_
  simp only [nlF]
  rw [if_neg (show ¬ y.2.1 ≤ i by omega), hb, fw_s (n := i) (by omega)]
  simp only []
  clear gc
  have hle : (if b = 10 then 1 else 0) ≤ 1 := by split <;> omega
  generalize (if b = 10 then 1 else 0) = z at *
  have ih := ends_l k hl hk hy d f (i + 1) (c + z) (by omega) (by omega) (by omega)
  exact ih.trans (sn (by omega))
theorem in_at {k : Nat} {s : List Nat} (hl : s.length ≤ 2000) {x : Nat × Nat × Nat} (h : x.2.1 + x.2.2 ≤ s.length) : g66 k s (⟨(mkTok s x).f0, (mkTok s x).f1, (mkTok s x).f2⟩ : S46) = some true := by
 have tl : ((s.drop x.2.1).take x.2.2).length = x.2.2 := by rw [List.length_take, List.length_drop]; omega
 unfold g66
 refine iT (dT (show (0 : Int) ≤ (x.2.1 : Int) by omega)) ?_
 refine iT (dT (show (x.2.1 : Int) ≤ (s.length : Int) by omega)) ?_
 show some (decide ((((s.drop x.2.1).take x.2.2).length : Int) ≤ fW .i64 ((s.length : Int) - (x.2.1 : Int)))) = _
 rw [tl, fw_d (by omega) (by omega), dT (by omega)]
theorem gend_at {k : Nat} {s : List Nat} (hl : s.length ≤ 2000) {x : Nat × Nat × Nat} (h : x.2.1 + x.2.2 ≤ s.length) : g38 k (⟨(mkTok s x).f0, (mkTok s x).f1, (mkTok s x).f2⟩ : S46) = some ((x.2.1 + x.2.2 : Nat) : Int) := by
 unfold g38
 show some (fW .i64 ((mkTok s x).f2 + ((mkTok s x).f1.length : Int))) = _
 rw [tok_end h, fwI (by omega) (by omega)]
theorem ends_at {k : Nat} {s : List Nat} (hk : s.length + 10 ≤ k) (hl : s.length ≤ 2000) {l : List (Nat × Nat × Nat)} (ht : Toks s 0 l) (kk : Int) : g49 k s (l.map (mkTok s)) kk = some ((gapI s l kk : Nat) : Int) := by
 unfold g49 gapI
 have ll : ((l.map (mkTok s)).length : Int) = (l.length : Int) := by simp
 by_cases h : 1 ≤ kk ∧ kk < l.length
 ·rw [if_pos h]
  obtain ⟨n, rfl⟩ : ∃ n : Nat, kk = (n : Int) := ⟨kk.toNat, by omega⟩
  obtain ⟨x, y, r, h1, h2, h3, h4⟩ := pair_at (l := l) (k := n) (by omega) (by omega)
  have bx := toks_bounds ht (Nat.zero_le _) x h3
  have bY := toks_bounds ht (Nat.zero_le _) y h4
  have cl : l.length ≤ s.length := toks_len s (s.length + 1) 0 l ((toks_iff s (s.length + 1) 0 l (by omega)).2 ht) (Nat.zero_le _)
  have pr := toks_pair ht h1
  have e1 := fun _ : Unit => (show fW .i64 ((n : Int) - 1) = ((n - 1 : Nat) : Int) from by rw [fwI (by omega) (by omega)]; omega)
  refine (jS (v := false) (fun j => ?_)).trans ?_
  ·refine iF (dF (by omega)) ?_
   refine iF (dF (by omega)) ?_
   rw [e1 ()]
   refine bS (by (try simp (disch := omega) only [fwI]); exact map_drop' h1) ?_
   refine bS (by (try simp (disch := omega) only [fwI]); exact in_at hl bx.2.1) ?_
   refine iF rfl ?_
   refine bS (by (try simp (disch := omega) only [fwI]); exact map_drop' h2) ?_
   refine bS (by (try simp (disch := omega) only [fwI]); exact in_at hl bY.2.1) ?_
   refine iF rfl ?_
   refine bS (by (try simp (disch := omega) only [fwI]); exact map_drop' h1) ?_
   refine bS (by (try simp (disch := omega) only [fwI]); exact gend_at hl bx.2.1) ?_
   refine bS (by (try simp (disch := omega) only [fwI]); exact map_drop' h2) ?_
   rw [show (mkTok s y).f2 = (y.2.1 : Int) from rfl, dF (show ¬ (y.2.1 : Int) < ((x.2.1 + x.2.2 : Nat) : Int) by omega)]
  ·refine iF rfl ?_
   rw [e1 ()]
   refine bS (by (try simp (disch := omega) only [fwI]); exact map_drop' h1) ?_
   refine bS (by (try simp (disch := omega) only [fwI]); exact gend_at hl bx.2.1) ?_
   refine (ends_l k hl (map_drop' h2) (by omega) (y.2.1 - (x.2.1 + x.2.2)) k (x.2.1 + x.2.2) 0 (by omega) (by omega) (by omega)).trans ?_
   rw [Int.toNat_natCast]
   unfold gapN
   rw [h1, Nat.zero_add]
 ·rw [if_neg h]
  refine (jS (v := true) (fun j => ?_)).trans rfl
  by_cases h1 : kk < 1
  ·exact iT (dT h1) rfl
  ·refine iF (dF h1) ?_
   exact iT (dT (by omega)) rfl
theorem gblank_at {k : Nat} {s : List Nat} (hk : s.length + 10 ≤ k) (hl : s.length ≤ 2000) {l : List (Nat × Nat × Nat)} (ht : Toks s 0 l) (kk : Int) : g37 k s (l.map (mkTok s)) kk = some (decide (2 ≤ ((gapI s l kk : Nat) : Int))) := by
 unfold g37
 refine bS (by (try simp (disch := omega) only [fwI]); exact ends_at hk hl ht kk) ?_
 have : decide ((1 : Int) < ((gapI s l kk : Nat) : Int)) = decide (2 ≤ ((gapI s l kk : Nat) : Int)) := by rw [Bool.eq_iff_iff]; simp; omega
 rw [this]
end Go.Proofs.Ytbmijiibfaacmaa.Am
set_option maxRecDepth 100000
set_option linter.unusedVariables false
namespace Go.Proofs.Ytbmijiibfaacmaa.Am
noncomputable section
open Go
def X29 : Fx (List S36) := ⟨Try.prog, cx, Try.f29, fun r => .vec (r).length 4 ((r).flatMap e37), 0, fun _ => H0, cxTi, cxOrd⟩
def X29f47_1 (a_0 : Int) (a_1 : Int) (a_2 : Bool) (b_3 : (List Nat)) (b_4 : (List S46)) (b3 : (List S36)) : Fx (List S36) := ⟨Try.prog, cx, Try.f47, fun r => .tuple [], 4, fun r => (mkH [⟨[.str b_3], 0, false⟩, ⟨[.vec (b_4).length 3 ((b_4).flatMap e47)], 0, false⟩, ⟨[.own 3 (r).length 4], 1, false⟩, ⟨(r).flatMap e37, 0, false⟩]), cxTi, cxOrd⟩
def g29f47_1p0 : Pt := nav [] (bodyAt Try.f47)
def g29f47_1 (k : Nat) (a_0 : Int) (a_1 : Int) (a_2 : Bool) (b_3 : (List Nat)) (b_4 : (List S46)) (b3 : (List S36)) : Option (List S36) :=
 (g37 k b_3 b_4 a_0).bind fun x0_7 => (appS 24 b3 ([(⟨a_0, a_1, a_2, x0_7⟩ : S36)] : List S36)).bind fun x0_10 => some x0_10
theorem g29f47_1_ok (k : Nat) (a_0 : Int) (a_1 : Int) (a_2 : Bool) (b_3 : (List Nat)) (b_4 : (List S46)) (b3 : (List S36)) (r : (List S36)) (h : g29f47_1 k a_0 a_1 a_2 b_3 b_4 b3 = some r) : CallV Try.prog 47 [.int .i64 a_0, .int .i64 a_1, .bool a_2, .ptr 2 1 0, .ptr 0 1 0, .ptr 1 1 0] (mkH [⟨[.str b_3], 0, false⟩, ⟨[.vec (b_4).length 3 ((b_4).flatMap e47)], 0, false⟩, ⟨[.own 3 (b3).length 4], 1, false⟩, ⟨(b3).flatMap e37, 0, false⟩]) (.tuple []) (mkH [⟨[.str b_3], 0, false⟩, ⟨[.vec (b_4).length 3 ((b_4).flatMap e47)], 0, false⟩, ⟨[.own 3 (r).length 4], 1, false⟩, ⟨(r).flatMap e37, 0, false⟩]) := by
 refine callM_of (X29f47_1 a_0 a_1 a_2 b_3 b_4 b3) Try.func47 (by kernel_rfl) (by kernel_rfl) rfl (t := g29f47_1 k a_0 a_1 a_2 b_3 b_4 b3) ?_ h
 unfold g29f47_1
 refine oE (eE := [(0, .int .i64 a_0), (1, .int .i64 a_1), (2, .bool a_2), (3, .ptr 2 1 0), (4, .ptr 0 1 0), (5, .ptr 1 1 0)]) (by kernel_rfl) ?_
 refine ok_bind (fun x0_7 hx0_7 => ?_)
 refine ok_bind (fun x0_10 hx0_10 => ?_)
 let E1 : Env := [(15, .int .i64 a_0), (14, .vec (b_4).length 3 ((b_4).flatMap e47)), (13, .str b_3), (12, .bool a_2), (11, .int .i64 a_1), (10, .int .i64 a_0), (9, .own 3 (b3).length 4), (0, .int .i64 a_0), (1, .int .i64 a_1), (2, .bool a_2), (3, .ptr 2 1 0), (4, .ptr 0 1 0), (5, .ptr 1 1 0)]
 refine ok_draw (p' := nav [0] g29f47_1p0) (eE := ((19, .own 3 (x0_10).length 4) :: (18, .slice 4 4 0 1 4) :: (17, .agg [.int .i64 a_0, .int .i64 a_1, .bool a_2, .bool x0_7]) :: (16, .bool x0_7) :: E1)) (H' := (mkH [⟨[.str b_3], 0, false⟩, ⟨[.vec (b_4).length 3 ((b_4).flatMap e47)], 0, false⟩, ⟨[.own 3 (x0_10).length 4], 1, false⟩, ⟨(x0_10).flatMap e37, 0, false⟩, ⟨[.int .i64 a_0, .int .i64 a_1, .bool a_2, .bool x0_7], 0, false⟩])) (hs := [(mkH [⟨[.str b_3], 0, false⟩, ⟨[.vec (b_4).length 3 ((b_4).flatMap e47)], 0, false⟩, ⟨[.own 3 (b3).length 4], 1, false⟩, ⟨(b3).flatMap e37, 0, false⟩]), (mkH [⟨[.str b_3], 0, false⟩, ⟨[.vec (b_4).length 3 ((b_4).flatMap e47)], 0, false⟩, ⟨[.own 3 (b3).length 4], 1, false⟩, ⟨(b3).flatMap e37, 0, false⟩, ⟨[.int .i64 a_0, .int .i64 a_1, .bool a_2, .bool x0_7], 0, false⟩]), (mkH [⟨[.str b_3], 0, false⟩, ⟨[.vec (b_4).length 3 ((b_4).flatMap e47)], 0, false⟩, ⟨[.own 3 (b3).length 4], 1, false⟩, ⟨(x0_10).flatMap e37, 0, false⟩, ⟨[.int .i64 a_0, .int .i64 a_1, .bool a_2, .bool x0_7], 0, false⟩]), (mkH [⟨[.str b_3], 0, false⟩, ⟨[.vec (b_4).length 3 ((b_4).flatMap e47)], 0, false⟩, ⟨[.own 3 (x0_10).length 4], 1, false⟩, ⟨(x0_10).flatMap e37, 0, false⟩, ⟨[.int .i64 a_0, .int .i64 a_1, .bool a_2, .bool x0_7], 0, false⟩])]) [(0, 0, 2), (0, 0, 0), (0, 0, 0), (0, 0, 0), (0, 0, 0), (0, 0, 0), (0, 0, 0), (112, 0, 0), (254, 0, 0), (510, 0, 0), (1023, 0, 0), (2047, 0, 0)] (by kernel_rfl) (by kernel_rfl) (by kernel_rfl) (opsD_run 7 (l' := (opsAt g29f47_1p0).toList.drop 7) (eE := E1) (H' := (mkH [⟨[.str b_3], 0, false⟩, ⟨[.vec (b_4).length 3 ((b_4).flatMap e47)], 0, false⟩, ⟨[.own 3 (b3).length 4], 1, false⟩, ⟨(b3).flatMap e37, 0, false⟩])) (hs := []) (by kernel_rfl) (opsD_call (l' := (opsAt g29f47_1p0).toList.drop 8) (eE := ((16, .bool x0_7) :: E1)) (hs := [(mkH [⟨[.str b_3], 0, false⟩, ⟨[.vec (b_4).length 3 ((b_4).flatMap e47)], 0, false⟩, ⟨[.own 3 (b3).length 4], 1, false⟩, ⟨(b3).flatMap e37, 0, false⟩])]) (fi := 37) (args := [.str b_3, .vec (b_4).length 3 ((b_4).flatMap e47), .int .i64 a_0]) (v := .bool x0_7) (by kernel_rfl) (by kernel_rfl) (by kernel_rfl) (g37_ok k b_3 b_4 a_0 x0_7 hx0_7) (by kernel_rfl) (opsD_run 2 (l' := (opsAt g29f47_1p0).toList.drop 10) (eE := ((18, .slice 4 4 0 1 4) :: (17, .agg [.int .i64 a_0, .int .i64 a_1, .bool a_2, .bool x0_7]) :: (16, .bool x0_7) :: E1)) (H' := (mkH [⟨[.str b_3], 0, false⟩, ⟨[.vec (b_4).length 3 ((b_4).flatMap e47)], 0, false⟩, ⟨[.own 3 (b3).length 4], 1, false⟩, ⟨(b3).flatMap e37, 0, false⟩, ⟨[.int .i64 a_0, .int .i64 a_1, .bool a_2, .bool x0_7], 0, false⟩])) (hs := [(mkH [⟨[.str b_3], 0, false⟩, ⟨[.vec (b_4).length 3 ((b_4).flatMap e47)], 0, false⟩, ⟨[.own 3 (b3).length 4], 1, false⟩, ⟨(b3).flatMap e37, 0, false⟩, ⟨[.int .i64 a_0, .int .i64 a_1, .bool a_2, .bool x0_7], 0, false⟩])]) (by kernel_rfl) (opsD_chk (l' := (opsAt g29f47_1p0).toList.drop 11) (eE := ((19, .own 3 (x0_10).length 4) :: (18, .slice 4 4 0 1 4) :: (17, .agg [.int .i64 a_0, .int .i64 a_1, .bool a_2, .bool x0_7]) :: (16, .bool x0_7) :: E1)) (hs := [(mkH [⟨[.str b_3], 0, false⟩, ⟨[.vec (b_4).length 3 ((b_4).flatMap e47)], 0, false⟩, ⟨[.own 3 (b3).length 4], 1, false⟩, ⟨(x0_10).flatMap e37, 0, false⟩, ⟨[.int .i64 a_0, .int .i64 a_1, .bool a_2, .bool x0_7], 0, false⟩])]) (x := x0_10) (fun (x0_10 : (List S36)) => (.own 3 (x0_10).length 4, (mkH [⟨[.str b_3], 0, false⟩, ⟨[.vec (b_4).length 3 ((b_4).flatMap e47)], 0, false⟩, ⟨[.own 3 (b3).length 4], 1, false⟩, ⟨(x0_10).flatMap e37, 0, false⟩, ⟨[.int .i64 a_0, .int .i64 a_1, .bool a_2, .bool x0_7], 0, false⟩]))) (appH (sz := 4) e37_len rfl e37_one [⟨[.str b_3], 0, false⟩, ⟨[.vec (b_4).length 3 ((b_4).flatMap e47)], 0, false⟩, ⟨[.own 3 (b3).length 4], 1, false⟩, ⟨(b3).flatMap e37, 0, false⟩, ⟨[.int .i64 a_0, .int .i64 a_1, .bool a_2, .bool x0_7], 0, false⟩] 3 24 b3 ([(⟨a_0, a_1, a_2, x0_7⟩ : S36)] : List S36) rfl rfl (by kernel_rfl)) hx0_10 (by kernel_rfl) (opsD_run 1 (l' := (opsAt g29f47_1p0).toList.drop 12) (eE := ((19, .own 3 (x0_10).length 4) :: (18, .slice 4 4 0 1 4) :: (17, .agg [.int .i64 a_0, .int .i64 a_1, .bool a_2, .bool x0_7]) :: (16, .bool x0_7) :: E1)) (H' := (mkH [⟨[.str b_3], 0, false⟩, ⟨[.vec (b_4).length 3 ((b_4).flatMap e47)], 0, false⟩, ⟨[.own 3 (x0_10).length 4], 1, false⟩, ⟨(x0_10).flatMap e37, 0, false⟩, ⟨[.int .i64 a_0, .int .i64 a_1, .bool a_2, .bool x0_7], 0, false⟩])) (hs := [(mkH [⟨[.str b_3], 0, false⟩, ⟨[.vec (b_4).length 3 ((b_4).flatMap e47)], 0, false⟩, ⟨[.own 3 (x0_10).length 4], 1, false⟩, ⟨(x0_10).flatMap e37, 0, false⟩, ⟨[.int .i64 a_0, .int .i64 a_1, .bool a_2, .bool x0_7], 0, false⟩])]) (by kernel_rfl) (.nil)))))) (by kernel_rfl) (by kernel_rfl) (by kernel_rfl) ?_
 refine oK [] (eE := []) (by kernel_rfl) ?_
 refine ok_cut [⟨[.str b_3], 0, false⟩, ⟨[.vec (b_4).length 3 ((b_4).flatMap e47)], 0, false⟩, ⟨[.own 3 (x0_10).length 4], 1, false⟩, ⟨(x0_10).flatMap e37, 0, false⟩] [⟨[.int .i64 a_0, .int .i64 a_1, .bool a_2, .bool x0_7], 0, false⟩] (by kernel_rfl) rfl (by kernel_rfl) ⟨(by kernel_rfl), ⟨(by kernel_rfl), ⟨(by kernel_rfl), ⟨(purs_belows _ (purs_flatMap e37_pur _)), trivial⟩⟩⟩⟩ ?_
 exact ok_retM (r := x0_10) (xs := []) (by kernel_rfl) (by kernel_rfl) (by kernel_rfl) (by kernel_rfl)
def g29p0 : Pt := nav [0] (bodyAt Try.f29)
def g29p1 : Pt := nav [0, 0, 0] g29p0
def g29p2 : Pt := nav [0, 0, 0] g29p1
def g29p3 : Pt := nav [0, 0, 0, 0] g29p2
def g29p4 : Pt := nav [0, 0, 0, 0] g29p3
def g29p5 : Pt := nav [0, 0, 0] g29p4
def g29p6 : Pt := nav [0, 0] g29p5
def g29p7 : Pt := nav [1, 0, 0, 0, 0] g29p6
def g29p9 : Pt := nav [0, 0] g29p7
def g29p11 : Pt := nav [1, 0] g29p9
def g29p12 : Pt := nav [2, 0, 0] g29p9
def g29p13 : Pt := nav [0, 0, 0] g29p11
def g29p14 : Pt := nav [0, 0, 0, 0, 0] g29p12
def g29p15 : Pt := nav [0, 0, 0] g29p14
def g29p16 : Pt := nav [0, 0] g29p15
def g29p17 : Pt := nav [1, 0, 0, 0, 0, 0] g29p16
def g29p18 : Pt := nav [2, 0, 0] g29p16
def g29p19 : Pt := nav [0, 0] g29p17
def g29p22 : Pt := nav [2, 0, 0] g29p19
def g29p23 : Pt := nav [0, 0] g29p22
def g29_l6 (k : Nat) (c5 : Int → (List S36) → Option (List S36)) (a0 : (List Nat)) (a1 : (List S46)) (y5_0 : Int) (n : Nat) : Int → Int → Int → (List S36) → Option (List S36) :=
 Nat.rec (motive := fun _ => Int → Int → Int → (List S36) → Option (List S36)) (fun _ _ _ _ => none) (fun _ ih => fun (y6_0 : Int) (y6_1 : Int) (y6_2 : Int) (y6_3 : (List S36)) => jn (fun (z8 : Int × Int × (List S36)) => (g29f47_1 k z8.2.1 z8.1 false a0 a1 z8.2.2).bind fun x4_3 => c5 z8.1 x4_3) (fun j8 => if (decide (y6_0 < (a1.length : Int))) then ((nthL a1 y6_0).bind fun x2_2 => jn (fun (z7 : Int × Int × Int × (List S36)) => (nthL a1 z7.2.1).bind fun x3_2 => if (decide (x3_2.f0 = 10)) then (j8 (z7.1, z7.2.2.1, z7.2.2.2)) else (ih (fW .i64 (z7.2.1 + 1)) z7.1 z7.2.2.1 z7.2.2.2)) (fun j7 => if (!decide (x2_2.f0 = 11)) then (j7 (fW .i64 (y6_0 + 1), y6_0, y6_2, y6_3)) else (j7 (y6_1, y6_0, y6_2, y6_3)))) else (j8 (y6_1, y6_2, y6_3)))) n
theorem g29_l6_s (k : Nat) (c5 : Int → (List S36) → Option (List S36)) (a0 : (List Nat)) (a1 : (List S46)) (y5_0 : Int) (n : Nat) (y6_0 : Int) (y6_1 : Int) (y6_2 : Int) (y6_3 : (List S36)) : g29_l6 k c5 a0 a1 y5_0 (n + 1) y6_0 y6_1 y6_2 y6_3 = (jn (fun (z8 : Int × Int × (List S36)) => (g29f47_1 k z8.2.1 z8.1 false a0 a1 z8.2.2).bind fun x4_3 => c5 z8.1 x4_3) (fun j8 => if (decide (y6_0 < (a1.length : Int))) then ((nthL a1 y6_0).bind fun x2_2 => jn (fun (z7 : Int × Int × Int × (List S36)) => (nthL a1 z7.2.1).bind fun x3_2 => if (decide (x3_2.f0 = 10)) then (j8 (z7.1, z7.2.2.1, z7.2.2.2)) else ((g29_l6 k c5 a0 a1 y5_0 n) (fW .i64 (z7.2.1 + 1)) z7.1 z7.2.2.1 z7.2.2.2)) (fun j7 => if (!decide (x2_2.f0 = 11)) then (j7 (fW .i64 (y6_0 + 1), y6_0, y6_2, y6_3)) else (j7 (y6_1, y6_0, y6_2, y6_3)))) else (j8 (y6_1, y6_2, y6_3)))) := rfl
theorem g29_l6_ok (k : Nat) (c5 : Int → (List S36) → Option (List S36)) (a0 : (List Nat)) (a1 : (List S46)) (y5_0 : Int) (hc5 : ∀ (y5_0 : Int) (y5_1 : (List S36)), Ok X29 g29p4 [(3, .ptr 1 1 0), (5, .ptr 2 1 0), (6, .func 47 [] [.ptr 2 1 0, .ptr 0 1 0, .ptr 1 1 0]), (7, .int .i64 y5_0)] (mkH [⟨[.str a0], 0, false⟩, ⟨[.vec (a1).length 3 ((a1).flatMap e47)], 0, false⟩, ⟨[.own 3 (y5_1).length 4], 1, false⟩, ⟨(y5_1).flatMap e37, 0, false⟩]) (c5 y5_0 y5_1)) : ∀ (n : Nat) (y6_0 : Int) (y6_1 : Int) (y6_2 : Int) (y6_3 : (List S36)), Ok X29 g29p14 [(3, .ptr 1 1 0), (5, .ptr 2 1 0), (6, .func 47 [] [.ptr 2 1 0, .ptr 0 1 0, .ptr 1 1 0]), (7, .int .i64 y6_2), (8, .int .i64 y6_1), (9, .int .i64 y6_0)] (mkH [⟨[.str a0], 0, false⟩, ⟨[.vec (a1).length 3 ((a1).flatMap e47)], 0, false⟩, ⟨[.own 3 (y6_3).length 4], 1, false⟩, ⟨(y6_3).flatMap e37, 0, false⟩]) (g29_l6 k c5 a0 a1 y5_0 n y6_0 y6_1 y6_2 y6_3)
 | 0, _, _, _, _ => ok_none
 | n + 1, y6_0, y6_1, y6_2, y6_3 => by
  have ih := g29_l6_ok k c5 a0 a1 y5_0 hc5 n
  rw [g29_l6_s]
  refine ok_ent (p' := nav [0] g29p14) (by kernel_rfl) ?_
  let E7 : Env := [(34, .bool (decide (y6_0 < (a1.length : Int)))), (33, .int .i64 (a1.length : Int)), (32, .vec (a1).length 3 ((a1).flatMap e47)), (31, .int .i64 y6_0), (3, .ptr 1 1 0), (5, .ptr 2 1 0), (6, .func 47 [] [.ptr 2 1 0, .ptr 0 1 0, .ptr 1 1 0]), (7, .int .i64 y6_2), (8, .int .i64 y6_1), (9, .int .i64 y6_0)]
  refine oR 8 (p' := g29p16) (eE := E7) (H' := (mkH [⟨[.str a0], 0, false⟩, ⟨[.vec (a1).length 3 ((a1).flatMap e47)], 0, false⟩, ⟨[.own 3 (y6_3).length 4], 1, false⟩, ⟨(y6_3).flatMap e37, 0, false⟩])) (by kernel_rfl) ?_
  refine oJ (f := fun (z8 : Int × Int × (List S36)) => (g29f47_1 k z8.2.1 z8.1 false a0 a1 z8.2.2).bind fun x4_3 => c5 z8.1 x4_3) g29p18 (fun (z8 : Int × Int × (List S36)) => [(3, .ptr 1 1 0), (5, .ptr 2 1 0), (6, .func 47 [] [.ptr 2 1 0, .ptr 0 1 0, .ptr 1 1 0]), (7, .int .i64 z8.2.1), (8, .int .i64 z8.1)]) (fun (z8 : Int × Int × (List S36)) => (mkH [⟨[.str a0], 0, false⟩, ⟨[.vec (a1).length 3 ((a1).flatMap e47)], 0, false⟩, ⟨[.own 3 (z8.2.2).length 4], 1, false⟩, ⟨(z8.2.2).flatMap e37, 0, false⟩])) (fun z8 => ?_) (fun j8 hj8 => ?_)
  ·let E8 : Env := [(53, .int .i64 z8.1), (52, .int .i64 z8.2.1), (51, .func 47 [] [.ptr 2 1 0, .ptr 0 1 0, .ptr 1 1 0]), (3, .ptr 1 1 0), (5, .ptr 2 1 0), (6, .func 47 [] [.ptr 2 1 0, .ptr 0 1 0, .ptr 1 1 0]), (7, .int .i64 z8.2.1), (8, .int .i64 z8.1)]
   refine oR 4 (p' := (atN 3 (ctl1 g29p18))) (eE := E8) (H' := (mkH [⟨[.str a0], 0, false⟩, ⟨[.vec (a1).length 3 ((a1).flatMap e47)], 0, false⟩, ⟨[.own 3 (z8.2.2).length 4], 1, false⟩, ⟨(z8.2.2).flatMap e37, 0, false⟩])) (by kernel_rfl) ?_
   refine ok_callM (fun (x4_3 : (List S36)) => .tuple []) (fun (x4_3 : (List S36)) => (mkH [⟨[.str a0], 0, false⟩, ⟨[.vec (a1).length 3 ((a1).flatMap e47)], 0, false⟩, ⟨[.own 3 (x4_3).length 4], 1, false⟩, ⟨(x4_3).flatMap e37, 0, false⟩])) (atN 4 (ctl1 g29p18)) (fun x4_3 => ((54, .tuple []) :: E8)) (fi := 47) (args := [.int .i64 z8.2.1, .int .i64 z8.1, .bool false, .ptr 2 1 0, .ptr 0 1 0, .ptr 1 1 0]) (by kernel_rfl) (fun r h => g29f47_1_ok k z8.2.1 z8.1 false a0 a1 z8.2.2 r h) (fun _ => by kernel_rfl) (fun x4_3 hx4_3 => ?_)
   refine oR 5 (p' := g29p4) (eE := ((7, .int .i64 z8.1) :: (55, .int .i64 z8.1) :: (54, .tuple []) :: E8)) (H' := (mkH [⟨[.str a0], 0, false⟩, ⟨[.vec (a1).length 3 ((a1).flatMap e47)], 0, false⟩, ⟨[.own 3 (x4_3).length 4], 1, false⟩, ⟨(x4_3).flatMap e37, 0, false⟩])) (by kernel_rfl) ?_
   refine oK [3, 5, 6, 7] (eE := [(3, .ptr 1 1 0), (5, .ptr 2 1 0), (6, .func 47 [] [.ptr 2 1 0, .ptr 0 1 0, .ptr 1 1 0]), (7, .int .i64 z8.1)]) (by kernel_rfl) ?_
   exact hc5 z8.1 x4_3
  ·refine oS 34 (b := decide (y6_0 < (a1.length : Int))) (by kernel_rfl) (fun hb => ?_) (fun hb => ?_)
   ·refine oR 9 (p' := (atN 2 (ctl1 g29p17))) (eE := ((38, .int .i64 y6_0) :: (37, .vec (a1).length 3 ((a1).flatMap e47)) :: (34, .bool true) :: E7)) (H' := (mkH [⟨[.str a0], 0, false⟩, ⟨[.vec (a1).length 3 ((a1).flatMap e47)], 0, false⟩, ⟨[.own 3 (y6_3).length 4], 1, false⟩, ⟨(y6_3).flatMap e37, 0, false⟩])) (by kernel_rfl) ?_
    refine oH (fun (x2_2 : S46) => (.vptr [.int .i64 x2_2.f0, .str x2_2.f1, .int .i64 x2_2.f2], (mkH [⟨[.str a0], 0, false⟩, ⟨[.vec (a1).length 3 ((a1).flatMap e47)], 0, false⟩, ⟨[.own 3 (y6_3).length 4], 1, false⟩, ⟨(y6_3).flatMap e37, 0, false⟩]))) (atN 3 (ctl1 g29p17)) (fun x2_2 => ((39, .vptr [.int .i64 x2_2.f0, .str x2_2.f1, .int .i64 x2_2.f2]) :: (38, .int .i64 y6_0) :: (37, .vec (a1).length 3 ((a1).flatMap e47)) :: (34, .bool true) :: E7)) (vidxH (sz := 3) e47_len (by kernel_rfl)) (fun _ => by kernel_rfl) (fun x2_2 hx2_2 => ?_)
    let E9 : Env := ((42, .bool (!decide (x2_2.f0 = 11))) :: (41, .int .i64 x2_2.f0) :: (40, .vptr [.int .i64 x2_2.f0, .str x2_2.f1, .int .i64 x2_2.f2]) :: (39, .vptr [.int .i64 x2_2.f0, .str x2_2.f1, .int .i64 x2_2.f2]) :: (38, .int .i64 y6_0) :: (37, .vec (a1).length 3 ((a1).flatMap e47)) :: (34, .bool true) :: E7)
    refine oR 4 (p' := g29p19) (eE := E9) (H' := (mkH [⟨[.str a0], 0, false⟩, ⟨[.vec (a1).length 3 ((a1).flatMap e47)], 0, false⟩, ⟨[.own 3 (y6_3).length 4], 1, false⟩, ⟨(y6_3).flatMap e37, 0, false⟩])) (by kernel_rfl) ?_
    refine oK [3, 5, 6, 7, 8, 9, 42] (eE := [(3, .ptr 1 1 0), (5, .ptr 2 1 0), (6, .func 47 [] [.ptr 2 1 0, .ptr 0 1 0, .ptr 1 1 0]), (7, .int .i64 y6_2), (8, .int .i64 y6_1), (9, .int .i64 y6_0), (42, .bool (!decide (x2_2.f0 = 11)))]) (by kernel_rfl) ?_
    refine oJ (f := fun (z7 : Int × Int × Int × (List S36)) => (nthL a1 z7.2.1).bind fun x3_2 => if (decide (x3_2.f0 = 10)) then (j8 (z7.1, z7.2.2.1, z7.2.2.2)) else ((g29_l6 k c5 a0 a1 y5_0 n) (fW .i64 (z7.2.1 + 1)) z7.1 z7.2.2.1 z7.2.2.2)) g29p22 (fun (z7 : Int × Int × Int × (List S36)) => [(3, .ptr 1 1 0), (5, .ptr 2 1 0), (6, .func 47 [] [.ptr 2 1 0, .ptr 0 1 0, .ptr 1 1 0]), (7, .int .i64 z7.2.2.1), (8, .int .i64 z7.1), (9, .int .i64 z7.2.1)]) (fun (z7 : Int × Int × Int × (List S36)) => (mkH [⟨[.str a0], 0, false⟩, ⟨[.vec (a1).length 3 ((a1).flatMap e47)], 0, false⟩, ⟨[.own 3 (z7.2.2.2).length 4], 1, false⟩, ⟨(z7.2.2.2).flatMap e37, 0, false⟩])) (fun z7 => ?_) (fun j7 hj7 => ?_)
    ·let E10 : Env := [(46, .int .i64 z7.2.1), (45, .vec (a1).length 3 ((a1).flatMap e47)), (3, .ptr 1 1 0), (5, .ptr 2 1 0), (6, .func 47 [] [.ptr 2 1 0, .ptr 0 1 0, .ptr 1 1 0]), (7, .int .i64 z7.2.2.1), (8, .int .i64 z7.1), (9, .int .i64 z7.2.1)]
     refine oR 3 (p' := (atN 2 (ctl1 g29p22))) (eE := E10) (H' := (mkH [⟨[.str a0], 0, false⟩, ⟨[.vec (a1).length 3 ((a1).flatMap e47)], 0, false⟩, ⟨[.own 3 (z7.2.2.2).length 4], 1, false⟩, ⟨(z7.2.2.2).flatMap e37, 0, false⟩])) (by kernel_rfl) ?_
     refine oH (fun (x3_2 : S46) => (.vptr [.int .i64 x3_2.f0, .str x3_2.f1, .int .i64 x3_2.f2], (mkH [⟨[.str a0], 0, false⟩, ⟨[.vec (a1).length 3 ((a1).flatMap e47)], 0, false⟩, ⟨[.own 3 (z7.2.2.2).length 4], 1, false⟩, ⟨(z7.2.2.2).flatMap e37, 0, false⟩]))) (atN 3 (ctl1 g29p22)) (fun x3_2 => ((47, .vptr [.int .i64 x3_2.f0, .str x3_2.f1, .int .i64 x3_2.f2]) :: E10)) (vidxH (sz := 3) e47_len (by kernel_rfl)) (fun _ => by kernel_rfl) (fun x3_2 hx3_2 => ?_)
     refine oR 4 (p' := g29p23) (eE := ((50, .bool (decide (x3_2.f0 = 10))) :: (49, .int .i64 x3_2.f0) :: (48, .vptr [.int .i64 x3_2.f0, .str x3_2.f1, .int .i64 x3_2.f2]) :: (47, .vptr [.int .i64 x3_2.f0, .str x3_2.f1, .int .i64 x3_2.f2]) :: E10)) (H' := (mkH [⟨[.str a0], 0, false⟩, ⟨[.vec (a1).length 3 ((a1).flatMap e47)], 0, false⟩, ⟨[.own 3 (z7.2.2.2).length 4], 1, false⟩, ⟨(z7.2.2.2).flatMap e37, 0, false⟩])) (by kernel_rfl) ?_
     refine oS 50 (b := decide (x3_2.f0 = 10)) (by kernel_rfl) (fun hb => ?_) (fun hb => ?_)
     ·let E11 : Env := ((50, .bool true) :: (50, .bool (decide (x3_2.f0 = 10))) :: (49, .int .i64 x3_2.f0) :: (48, .vptr [.int .i64 x3_2.f0, .str x3_2.f1, .int .i64 x3_2.f2]) :: (47, .vptr [.int .i64 x3_2.f0, .str x3_2.f1, .int .i64 x3_2.f2]) :: E10)
      refine oR 3 (p' := g29p18) (eE := E11) (H' := (mkH [⟨[.str a0], 0, false⟩, ⟨[.vec (a1).length 3 ((a1).flatMap e47)], 0, false⟩, ⟨[.own 3 (z7.2.2.2).length 4], 1, false⟩, ⟨(z7.2.2.2).flatMap e37, 0, false⟩])) (by kernel_rfl) ?_
      refine oK [3, 5, 6, 7, 8] (eE := [(3, .ptr 1 1 0), (5, .ptr 2 1 0), (6, .func 47 [] [.ptr 2 1 0, .ptr 0 1 0, .ptr 1 1 0]), (7, .int .i64 z7.2.2.1), (8, .int .i64 z7.1)]) (by kernel_rfl) ?_
      exact hj8 (z7.1, z7.2.2.1, z7.2.2.2)
     ·let E12 : Env := ((9, .int .i64 (fW .i64 (z7.2.1 + 1))) :: (36, .int .i64 (fW .i64 (z7.2.1 + 1))) :: (35, .int .i64 z7.2.1) :: (50, .bool false) :: (50, .bool (decide (x3_2.f0 = 10))) :: (49, .int .i64 x3_2.f0) :: (48, .vptr [.int .i64 x3_2.f0, .str x3_2.f1, .int .i64 x3_2.f2]) :: (47, .vptr [.int .i64 x3_2.f0, .str x3_2.f1, .int .i64 x3_2.f2]) :: E10)
      refine oR 7 (p' := g29p14) (eE := E12) (H' := (mkH [⟨[.str a0], 0, false⟩, ⟨[.vec (a1).length 3 ((a1).flatMap e47)], 0, false⟩, ⟨[.own 3 (z7.2.2.2).length 4], 1, false⟩, ⟨(z7.2.2.2).flatMap e37, 0, false⟩])) (by kernel_rfl) ?_
      refine oK [3, 5, 6, 7, 8, 9] (eE := [(3, .ptr 1 1 0), (5, .ptr 2 1 0), (6, .func 47 [] [.ptr 2 1 0, .ptr 0 1 0, .ptr 1 1 0]), (7, .int .i64 z7.2.2.1), (8, .int .i64 z7.1), (9, .int .i64 (fW .i64 (z7.2.1 + 1)))]) (by kernel_rfl) ?_
      exact ih (fW .i64 (z7.2.1 + 1)) z7.1 z7.2.2.1 z7.2.2.2
    ·refine oS 42 (b := !decide (x2_2.f0 = 11)) (by kernel_rfl) (fun hb => ?_) (fun hb => ?_)
     ·let E13 : Env := [(8, .int .i64 (fW .i64 (y6_0 + 1))), (44, .int .i64 (fW .i64 (y6_0 + 1))), (43, .int .i64 y6_0), (42, .bool true), (3, .ptr 1 1 0), (5, .ptr 2 1 0), (6, .func 47 [] [.ptr 2 1 0, .ptr 0 1 0, .ptr 1 1 0]), (7, .int .i64 y6_2), (8, .int .i64 y6_1), (9, .int .i64 y6_0), (42, .bool (!decide (x2_2.f0 = 11)))]
      refine oR 7 (p' := g29p22) (eE := E13) (H' := (mkH [⟨[.str a0], 0, false⟩, ⟨[.vec (a1).length 3 ((a1).flatMap e47)], 0, false⟩, ⟨[.own 3 (y6_3).length 4], 1, false⟩, ⟨(y6_3).flatMap e37, 0, false⟩])) (by kernel_rfl) ?_
      refine oK [3, 5, 6, 7, 8, 9] (eE := [(3, .ptr 1 1 0), (5, .ptr 2 1 0), (6, .func 47 [] [.ptr 2 1 0, .ptr 0 1 0, .ptr 1 1 0]), (7, .int .i64 y6_2), (8, .int .i64 (fW .i64 (y6_0 + 1))), (9, .int .i64 y6_0)]) (by kernel_rfl) ?_
      exact hj7 (fW .i64 (y6_0 + 1), y6_0, y6_2, y6_3)
     ·let E14 : Env := [(42, .bool false), (3, .ptr 1 1 0), (5, .ptr 2 1 0), (6, .func 47 [] [.ptr 2 1 0, .ptr 0 1 0, .ptr 1 1 0]), (7, .int .i64 y6_2), (8, .int .i64 y6_1), (9, .int .i64 y6_0), (42, .bool (!decide (x2_2.f0 = 11)))]
      refine oR 3 (p' := g29p22) (eE := E14) (H' := (mkH [⟨[.str a0], 0, false⟩, ⟨[.vec (a1).length 3 ((a1).flatMap e47)], 0, false⟩, ⟨[.own 3 (y6_3).length 4], 1, false⟩, ⟨(y6_3).flatMap e37, 0, false⟩])) (by kernel_rfl) ?_
      refine oK [3, 5, 6, 7, 8, 9] (eE := [(3, .ptr 1 1 0), (5, .ptr 2 1 0), (6, .func 47 [] [.ptr 2 1 0, .ptr 0 1 0, .ptr 1 1 0]), (7, .int .i64 y6_2), (8, .int .i64 y6_1), (9, .int .i64 y6_0)]) (by kernel_rfl) ?_
      exact hj7 (y6_1, y6_0, y6_2, y6_3)
   ·refine oR 3 (p' := g29p18) (eE := ((34, .bool false) :: E7)) (H' := (mkH [⟨[.str a0], 0, false⟩, ⟨[.vec (a1).length 3 ((a1).flatMap e47)], 0, false⟩, ⟨[.own 3 (y6_3).length 4], 1, false⟩, ⟨(y6_3).flatMap e37, 0, false⟩])) (by kernel_rfl) ?_
    refine oK [3, 5, 6, 7, 8] (eE := [(3, .ptr 1 1 0), (5, .ptr 2 1 0), (6, .func 47 [] [.ptr 2 1 0, .ptr 0 1 0, .ptr 1 1 0]), (7, .int .i64 y6_2), (8, .int .i64 y6_1)]) (by kernel_rfl) ?_
    exact hj8 (y6_1, y6_2, y6_3)
def g29_l5 (k : Nat)  (a0 : (List Nat)) (a1 : (List S46)) (n : Nat) : Int → (List S36) → Option (List S36) :=
 Nat.rec (motive := fun _ => Int → (List S36) → Option (List S36)) (fun _ _ => none) (fun _ ih => fun (y5_0 : Int) (y5_1 : (List S36)) => if (decide (y5_0 < (a1.length : Int))) then ((nthL a1 y5_0).bind fun x0_2 => if (decide (x0_2.f0 = 11)) then ((g29f47_1 k y5_0 (fW .i64 (y5_0 + 1)) true a0 a1 y5_1).bind fun x1_4 => ih (fW .i64 (y5_0 + 1)) x1_4) else (g29_l6 k ih a0 a1 y5_0 k y5_0 (fW .i64 (y5_0 + 1)) y5_0 y5_1)) else (some y5_1)) n
theorem g29_l5_s (k : Nat)  (a0 : (List Nat)) (a1 : (List S46)) (n : Nat) (y5_0 : Int) (y5_1 : (List S36)) : g29_l5 k a0 a1 (n + 1) y5_0 y5_1 = (if (decide (y5_0 < (a1.length : Int))) then ((nthL a1 y5_0).bind fun x0_2 => if (decide (x0_2.f0 = 11)) then ((g29f47_1 k y5_0 (fW .i64 (y5_0 + 1)) true a0 a1 y5_1).bind fun x1_4 => (g29_l5 k a0 a1 n) (fW .i64 (y5_0 + 1)) x1_4) else (g29_l6 k (g29_l5 k a0 a1 n) a0 a1 y5_0 k y5_0 (fW .i64 (y5_0 + 1)) y5_0 y5_1)) else (some y5_1)) := rfl
theorem g29_l5_ok (k : Nat)  (a0 : (List Nat)) (a1 : (List S46))  : ∀ (n : Nat) (y5_0 : Int) (y5_1 : (List S36)), Ok X29 g29p4 [(3, .ptr 1 1 0), (5, .ptr 2 1 0), (6, .func 47 [] [.ptr 2 1 0, .ptr 0 1 0, .ptr 1 1 0]), (7, .int .i64 y5_0)] (mkH [⟨[.str a0], 0, false⟩, ⟨[.vec (a1).length 3 ((a1).flatMap e47)], 0, false⟩, ⟨[.own 3 (y5_1).length 4], 1, false⟩, ⟨(y5_1).flatMap e37, 0, false⟩]) (g29_l5 k a0 a1 n y5_0 y5_1)
 | 0, _, _ => ok_none
 | n + 1, y5_0, y5_1 => by
  have ih := g29_l5_ok k a0 a1 n
  rw [g29_l5_s]
  refine ok_ent (p' := nav [0] g29p4) (by kernel_rfl) ?_
  let E2 : Env := [(14, .bool (decide (y5_0 < (a1.length : Int)))), (13, .int .i64 (a1.length : Int)), (12, .vec (a1).length 3 ((a1).flatMap e47)), (11, .int .i64 y5_0), (3, .ptr 1 1 0), (5, .ptr 2 1 0), (6, .func 47 [] [.ptr 2 1 0, .ptr 0 1 0, .ptr 1 1 0]), (7, .int .i64 y5_0)]
  refine oR 8 (p' := g29p6) (eE := E2) (H' := (mkH [⟨[.str a0], 0, false⟩, ⟨[.vec (a1).length 3 ((a1).flatMap e47)], 0, false⟩, ⟨[.own 3 (y5_1).length 4], 1, false⟩, ⟨(y5_1).flatMap e37, 0, false⟩])) (by kernel_rfl) ?_
  refine oS 14 (b := decide (y5_0 < (a1.length : Int))) (by kernel_rfl) (fun hb => ?_) (fun hb => ?_)
  ·refine oR 8 (p' := (atN 2 (ctl1 g29p7))) (eE := ((16, .int .i64 y5_0) :: (15, .vec (a1).length 3 ((a1).flatMap e47)) :: (14, .bool true) :: E2)) (H' := (mkH [⟨[.str a0], 0, false⟩, ⟨[.vec (a1).length 3 ((a1).flatMap e47)], 0, false⟩, ⟨[.own 3 (y5_1).length 4], 1, false⟩, ⟨(y5_1).flatMap e37, 0, false⟩])) (by kernel_rfl) ?_
   refine oH (fun (x0_2 : S46) => (.vptr [.int .i64 x0_2.f0, .str x0_2.f1, .int .i64 x0_2.f2], (mkH [⟨[.str a0], 0, false⟩, ⟨[.vec (a1).length 3 ((a1).flatMap e47)], 0, false⟩, ⟨[.own 3 (y5_1).length 4], 1, false⟩, ⟨(y5_1).flatMap e37, 0, false⟩]))) (atN 3 (ctl1 g29p7)) (fun x0_2 => ((17, .vptr [.int .i64 x0_2.f0, .str x0_2.f1, .int .i64 x0_2.f2]) :: (16, .int .i64 y5_0) :: (15, .vec (a1).length 3 ((a1).flatMap e47)) :: (14, .bool true) :: E2)) (vidxH (sz := 3) e47_len (by kernel_rfl)) (fun _ => by kernel_rfl) (fun x0_2 hx0_2 => ?_)
   let E3 : Env := ((20, .bool (decide (x0_2.f0 = 11))) :: (19, .int .i64 x0_2.f0) :: (18, .vptr [.int .i64 x0_2.f0, .str x0_2.f1, .int .i64 x0_2.f2]) :: (17, .vptr [.int .i64 x0_2.f0, .str x0_2.f1, .int .i64 x0_2.f2]) :: (16, .int .i64 y5_0) :: (15, .vec (a1).length 3 ((a1).flatMap e47)) :: (14, .bool true) :: E2)
   refine oR 4 (p' := g29p9) (eE := E3) (H' := (mkH [⟨[.str a0], 0, false⟩, ⟨[.vec (a1).length 3 ((a1).flatMap e47)], 0, false⟩, ⟨[.own 3 (y5_1).length 4], 1, false⟩, ⟨(y5_1).flatMap e37, 0, false⟩])) (by kernel_rfl) ?_
   refine oK [3, 5, 6, 7, 20] (eE := [(3, .ptr 1 1 0), (5, .ptr 2 1 0), (6, .func 47 [] [.ptr 2 1 0, .ptr 0 1 0, .ptr 1 1 0]), (7, .int .i64 y5_0), (20, .bool (decide (x0_2.f0 = 11)))]) (by kernel_rfl) ?_
   refine oS 20 (b := decide (x0_2.f0 = 11)) (by kernel_rfl) (fun hb => ?_) (fun hb => ?_)
   ·let E4 : Env := [(24, .int .i64 (fW .i64 (y5_0 + 1))), (23, .int .i64 y5_0), (22, .int .i64 y5_0), (21, .func 47 [] [.ptr 2 1 0, .ptr 0 1 0, .ptr 1 1 0]), (20, .bool true), (3, .ptr 1 1 0), (5, .ptr 2 1 0), (6, .func 47 [] [.ptr 2 1 0, .ptr 0 1 0, .ptr 1 1 0]), (7, .int .i64 y5_0), (20, .bool (decide (x0_2.f0 = 11)))]
    refine oR 7 (p' := (atN 4 (ctl1 g29p11))) (eE := E4) (H' := (mkH [⟨[.str a0], 0, false⟩, ⟨[.vec (a1).length 3 ((a1).flatMap e47)], 0, false⟩, ⟨[.own 3 (y5_1).length 4], 1, false⟩, ⟨(y5_1).flatMap e37, 0, false⟩])) (by kernel_rfl) ?_
    refine ok_callM (fun (x1_4 : (List S36)) => .tuple []) (fun (x1_4 : (List S36)) => (mkH [⟨[.str a0], 0, false⟩, ⟨[.vec (a1).length 3 ((a1).flatMap e47)], 0, false⟩, ⟨[.own 3 (x1_4).length 4], 1, false⟩, ⟨(x1_4).flatMap e37, 0, false⟩])) (atN 5 (ctl1 g29p11)) (fun x1_4 => ((25, .tuple []) :: E4)) (fi := 47) (args := [.int .i64 y5_0, .int .i64 (fW .i64 (y5_0 + 1)), .bool true, .ptr 2 1 0, .ptr 0 1 0, .ptr 1 1 0]) (by kernel_rfl) (fun r h => g29f47_1_ok k y5_0 (fW .i64 (y5_0 + 1)) true a0 a1 y5_1 r h) (fun _ => by kernel_rfl) (fun x1_4 hx1_4 => ?_)
    refine oR 2 (p' := g29p13) (eE := ((25, .tuple []) :: E4)) (H' := (mkH [⟨[.str a0], 0, false⟩, ⟨[.vec (a1).length 3 ((a1).flatMap e47)], 0, false⟩, ⟨[.own 3 (x1_4).length 4], 1, false⟩, ⟨(x1_4).flatMap e37, 0, false⟩])) (by kernel_rfl) ?_
    refine oK [3, 5, 6, 7] (eE := [(3, .ptr 1 1 0), (5, .ptr 2 1 0), (6, .func 47 [] [.ptr 2 1 0, .ptr 0 1 0, .ptr 1 1 0]), (7, .int .i64 y5_0)]) (by kernel_rfl) ?_
    let E5 : Env := [(7, .int .i64 (fW .i64 (y5_0 + 1))), (27, .int .i64 (fW .i64 (y5_0 + 1))), (26, .int .i64 y5_0), (3, .ptr 1 1 0), (5, .ptr 2 1 0), (6, .func 47 [] [.ptr 2 1 0, .ptr 0 1 0, .ptr 1 1 0]), (7, .int .i64 y5_0)]
    refine oR 6 (p' := g29p4) (eE := E5) (H' := (mkH [⟨[.str a0], 0, false⟩, ⟨[.vec (a1).length 3 ((a1).flatMap e47)], 0, false⟩, ⟨[.own 3 (x1_4).length 4], 1, false⟩, ⟨(x1_4).flatMap e37, 0, false⟩])) (by kernel_rfl) ?_
    refine oK [3, 5, 6, 7] (eE := [(3, .ptr 1 1 0), (5, .ptr 2 1 0), (6, .func 47 [] [.ptr 2 1 0, .ptr 0 1 0, .ptr 1 1 0]), (7, .int .i64 (fW .i64 (y5_0 + 1)))]) (by kernel_rfl) ?_
    exact ih (fW .i64 (y5_0 + 1)) x1_4
   ·let E6 : Env := [(9, .int .i64 y5_0), (8, .int .i64 (fW .i64 (y5_0 + 1))), (30, .int .i64 y5_0), (29, .int .i64 (fW .i64 (y5_0 + 1))), (28, .int .i64 y5_0), (20, .bool false), (3, .ptr 1 1 0), (5, .ptr 2 1 0), (6, .func 47 [] [.ptr 2 1 0, .ptr 0 1 0, .ptr 1 1 0]), (7, .int .i64 y5_0), (20, .bool (decide (x0_2.f0 = 11)))]
    refine oR 13 (p' := g29p14) (eE := E6) (H' := (mkH [⟨[.str a0], 0, false⟩, ⟨[.vec (a1).length 3 ((a1).flatMap e47)], 0, false⟩, ⟨[.own 3 (y5_1).length 4], 1, false⟩, ⟨(y5_1).flatMap e37, 0, false⟩])) (by kernel_rfl) ?_
    refine oK [3, 5, 6, 7, 8, 9] (eE := [(3, .ptr 1 1 0), (5, .ptr 2 1 0), (6, .func 47 [] [.ptr 2 1 0, .ptr 0 1 0, .ptr 1 1 0]), (7, .int .i64 y5_0), (8, .int .i64 (fW .i64 (y5_0 + 1))), (9, .int .i64 y5_0)]) (by kernel_rfl) ?_
    exact (g29_l6_ok k (g29_l5 k a0 a1 n) a0 a1 y5_0 ih k) y5_0 (fW .i64 (y5_0 + 1)) y5_0 y5_1
  ·refine oR 8 (p' := .fin) (eE := ((4, .own 3 (y5_1).length 4) :: (56, .own 3 (y5_1).length 4) :: (14, .bool false) :: E2)) (H' := (mkH [⟨[.str a0], 0, false⟩, ⟨[.vec (a1).length 3 ((a1).flatMap e47)], 0, false⟩, ⟨[.own 3 (y5_1).length 4], 1, false⟩, ⟨(y5_1).flatMap e37, 0, false⟩])) (by kernel_rfl) ?_
   exact oT (r := y5_1) (xs := [.own 3 (y5_1).length 4]) (v := .vec (y5_1).length 4 ((y5_1).flatMap e37)) (by kernel_rfl) (by kernel_rfl) (by kernel_rfl) (fz_own e37_len e37_pur rfl rfl (.pures (by kernel_rfl))) (by kernel_rfl)
def g29 (k : Nat) (a0 : (List Nat)) (a1 : (List S46)) : Option (List S36) :=
 g29_l5 k a0 a1 k 0 ([] : List S36)
theorem g29_ok (k : Nat) (a0 : (List Nat)) (a1 : (List S46)) (r : (List S36)) (h : g29 k a0 a1 = some r) : PureOk Try.prog 29 [.str a0, .vec (a1).length 3 ((a1).flatMap e47)] (.vec (r).length 4 ((r).flatMap e37)) := by
 refine pure_of X29 (fun _ => rfl) Try.func29 (by decide +kernel) (by kernel_rfl) (t := g29 k a0 a1) ?_ h
 unfold g29
 refine oE (eE := [(0, .str a0), (1, .vec (a1).length 3 ((a1).flatMap e47))]) (by kernel_rfl) ?_
 let E1 : Env := [(5, .ptr 2 1 0), (4, .nils), (3, .ptr 1 1 0), (2, .ptr 0 1 0), (0, .str a0), (1, .vec (a1).length 3 ((a1).flatMap e47))]
 refine oR 9 (p' := (atN 1 (ctl1 g29p1))) (eE := E1) (H' := (mkH [⟨[.str a0], 0, false⟩, ⟨[.vec (a1).length 3 ((a1).flatMap e47)], 0, false⟩, ⟨[.nils], 0, false⟩])) (by kernel_rfl) ?_
 refine ok_ownc [⟨[.str a0], 0, false⟩, ⟨[.vec (a1).length 3 ((a1).flatMap e47)], 0, false⟩, ⟨[.nils], 0, false⟩] 2 0 4 0 [.nils] rfl rfl rfl ?_
 refine ok_heap (H' := (mkH [⟨[.str a0], 0, false⟩, ⟨[.vec (a1).length 3 ((a1).flatMap e47)], 0, false⟩, ⟨[.own 3 (([] : List S36)).length 4], 0, false⟩, ⟨(([] : List S36)).flatMap e37, 0, false⟩])) (by kernel_rfl) ?_
 refine oR 13 (p' := g29p4) (eE := ((7, .int .i64 0) :: (6, .func 47 [] [.ptr 2 1 0, .ptr 0 1 0, .ptr 1 1 0]) :: (10, .func 47 [] [.ptr 2 1 0, .ptr 0 1 0, .ptr 1 1 0]) :: E1)) (H' := (mkH [⟨[.str a0], 0, false⟩, ⟨[.vec (a1).length 3 ((a1).flatMap e47)], 0, false⟩, ⟨[.own 3 (([] : List S36)).length 4], 0, false⟩, ⟨(([] : List S36)).flatMap e37, 0, false⟩])) (by kernel_rfl) ?_
 refine oK [3, 5, 6, 7] (eE := [(3, .ptr 1 1 0), (5, .ptr 2 1 0), (6, .func 47 [] [.ptr 2 1 0, .ptr 0 1 0, .ptr 1 1 0]), (7, .int .i64 0)]) (by kernel_rfl) ?_
 refine ok_minv [⟨[.str a0], 0, false⟩, ⟨[.vec (a1).length 3 ((a1).flatMap e47)], 0, false⟩, ⟨[.own 3 (([] : List S36)).length 4], 0, false⟩, ⟨(([] : List S36)).flatMap e37, 0, false⟩] 2 [.own 3 (([] : List S36)).length 4] 0 1 rfl rfl (by decide) ?_
 refine ok_heap (H' := (mkH [⟨[.str a0], 0, false⟩, ⟨[.vec (a1).length 3 ((a1).flatMap e47)], 0, false⟩, ⟨[.own 3 (([] : List S36)).length 4], 1, false⟩, ⟨(([] : List S36)).flatMap e37, 0, false⟩])) (by kernel_rfl) ?_
 exact (g29_l5_ok k a0 a1 k) 0 ([] : List S36)
end
end Go.Proofs.Ytbmijiibfaacmaa.Am
set_option maxRecDepth 100000
set_option linter.unusedVariables false
set_option linter.unusedSimpArgs false
namespace Go.Proofs.Ytbmijiibfaacmaa.Am
open Go
def frmN : List Nat → Nat → Nat → Nat
 | [], _, e => e
 | c :: r, k, e => if c = 10 then (if c = 11 then e else k + 1) else frmN r (k + 1) (if c = 11 then e else k + 1)
def splN (bl : Nat → Bool) : Nat → List Nat → Nat → List (Nat × Nat × Bool × Bool)
 | 0, _, _ => []
 | _ + 1, [], _ => []
 | f + 1, c :: r, i => if c = 11 then (i, i + 1, true, bl i) :: splN bl f r (i + 1) else (i, frmN (c :: r) i (i + 1), false, bl i) :: splN bl f ((c :: r).drop (frmN (c :: r) i (i + 1) - i)) (frmN (c :: r) i (i + 1))
theorem frm_lo : ∀ (r : List Nat) (k e : Nat), e ≤ k → e ≤ frmN r k e ∧ frmN r k e ≤ k + r.length
 | [], k, e, h => by simp only [frmN, List.length_nil]; omega
 | c :: r, k, e, h => by
  simp only [frmN, List.length_cons]
  have h1 := frm_lo r (k + 1) e (by omega)
  have h2 := frm_lo r (k + 1) (k + 1) (Nat.le_refl _)
  split
  ·split <;> omega
  ·split <;> omega
theorem frm_bnd {c : Nat} (r : List Nat) (i : Nat) (h : c ≠ 11) : i + 1 ≤ frmN (c :: r) i (i + 1) ∧ frmN (c :: r) i (i + 1) ≤ i + r.length + 1 := by
 simp only [frmN, if_neg h]
 have h2 := frm_lo r (i + 1) (i + 1) (Nat.le_refl _)
 split <;> omega
def itm (x : Nat × Nat × Bool × Bool) : S36 := ⟨(x.1 : Int), (x.2.1 : Int), x.2.2.1, x.2.2.2⟩
abbrev kindsN (l : List (Nat × Nat × Nat)) : List Nat := l.map (fun x => x.1)
abbrev blkF (s : List Nat) (l : List (Nat × Nat × Nat)) : Nat → Bool := fun i => decide (2 ≤ ((gapI s l (i : Int) : Nat) : Int))
theorem splN_len (bl : Nat → Bool) : ∀ (f : Nat) (r : List Nat) (i : Nat), (splN bl f r i).length ≤ r.length
 | 0, r, i => by simp [splN]
 | f + 1, [], i => by simp [splN]
 | f + 1, c :: r, i => by
  simp only [splN]
  split
  ·have := splN_len bl f r (i + 1)
   simp only [List.length_cons]; omega
  ·rename_i h
   have b := frm_bnd r i h
   have := splN_len bl f ((c :: r).drop (frmN (c :: r) i (i + 1) - i)) (frmN (c :: r) i (i + 1))
   simp only [List.length_cons, List.length_drop] at this ⊢
   omega
theorem ap24 {acc : List S36} {v : S36} (h : acc.length ≤ 100000) : appS 24 acc [v] = some (acc ++ [v]) := by
 unfold appS; rw [if_pos (by simp only [List.length_cons, List.length_nil]; omega)]
theorem kinds_at {s : List Nat} {l : List (Nat × Nat × Nat)} {i c : Nat} {r : List Nat} (h : (kindsN l).drop i = c :: r) : ∃ x, nthL (l.map (mkTok s)) (i : Int) = some (mkTok s x) ∧ x.1 = c ∧ i < l.length := by
 rcases Nat.lt_or_ge i l.length with hi | hi
 ·obtain ⟨x, r', hx, -, -, -⟩ := dconsL (s := l) (i := i) hi
  refine ⟨x, map_drop' hx, ?_, hi⟩
  rw [kindsN, ← List.map_drop, hx, List.map_cons] at h
  exact (List.cons.inj h).1
 ·rw [kindsN, ← List.map_drop, List.drop_eq_nil_of_le hi] at h; cases h
theorem kinds_end {l : List (Nat × Nat × Nat)} {i : Nat} (h : (kindsN l).drop i = []) : l.length ≤ i := by
 rw [kindsN, ← List.map_drop] at h
 exact List.drop_eq_nil_iff.1 (List.map_eq_nil_iff.1 h)
theorem take_at {k : Nat} {s : List Nat} (hk : s.length + 10 ≤ k) (hl : s.length ≤ 2000) {l : List (Nat × Nat × Nat)} (ht : Toks s 0 l) (a e : Nat) (nt : Bool) {acc : List S36} (ha : acc.length ≤ 100000) :
 g29f47_1 k (a : Int) (e : Int) nt s (l.map (mkTok s)) acc = some (acc ++ [itm (a, e, nt, blkF s l a)]) := by
 unfold g29f47_1
 refine bS (by (try simp (disch := omega) only [fwI]); exact gblank_at hk hl ht (a : Int)) ?_
 refine bS (by (try simp (disch := omega) only [fwI]); exact ap24 ha) ?_
 rfl
theorem split_f {k : Nat} {s : List Nat} (hk : s.length + 10 ≤ k) (hl : s.length ≤ 2000) {l : List (Nat × Nat × Nat)} (ht : Toks s 0 l) (c5 : Int → List S36 → Option (List S36)) (y : Int) {acc : List S36} (ha : acc.length ≤ 100000) (cl : l.length ≤ 2000) (a : Nat) : ∀ (r : List Nat) (f i e : Nat), (kindsN l).drop i = r → r.length < f → e ≤ 3000 →
 g29_l6 k c5 s (l.map (mkTok s)) y f (i : Int) (e : Int) (a : Int) acc = c5 ((frmN r i e : Nat) : Int) (acc ++ [itm (a, frmN r i e, false, blkF s l a)])
 | r, 0, i, e, hr, hf, he => by omega
 | [], f + 1, i, e, hr, hf, he => by
  have := kinds_end hr
  rw [g29_l6_s]
  refine (jS (v := ((e : Int), (a : Int), acc)) (fun j => ?_)).trans ?_
  ·exact iF (dF (by rw [List.length_map]; omega)) rfl
  ·refine bS (by (try simp (disch := omega) only [fwI]); exact take_at hk hl ht a e false ha) ?_
   rfl
 | c :: r, f + 1, i, e, hr, hf, he => by
  obtain ⟨x, hx, hc, hi⟩ := kinds_at (s := s) hr
  have ih := split_f hk hl ht c5 y ha cl a r f (i + 1) (if c = 11 then e else i + 1) (drop_step hr) (by simp only [List.length_cons] at hf; omega) (by split <;> omega)
  rw [g29_l6_s]
  simp only [frmN]
  have fx : (mkTok s x).f0 = (c : Int) := by rw [← hc]; rfl
  by_cases h10 : c = 10
  ·rw [if_pos h10, if_neg (by omega)]
   refine (jS (v := (((i + 1 : Nat) : Int), (a : Int), acc)) (fun j => ?_)).trans ?_
   ·refine iT (dT (by rw [List.length_map]; omega)) ?_
    refine bS (by (try simp (disch := omega) only [fwI]); exact hx) ?_
    refine (jS (v := (((i + 1 : Nat) : Int), (i : Int), (a : Int), acc)) (fun j => ?_)).trans ?_
    ·refine iT (by rw [fx, dF (by omega)]; rfl) ?_
     rw [fw_s (by omega)]
    ·refine bS (by (try simp (disch := omega) only [fwI]); exact hx) ?_
     exact iT (dT (by rw [fx]; omega)) rfl
   ·refine bS (by (try simp (disch := omega) only [fwI]); exact take_at hk hl ht a (i + 1) false ha) ?_
    rfl
  ·rw [if_neg h10]
   refine (jC (r := g29_l6 k c5 s (l.map (mkTok s)) y f ((i + 1 : Nat) : Int) (((if c = 11 then e else i + 1) : Nat) : Int) (a : Int) acc) (fun j => ?_)).trans ih
   refine iT (dT (by rw [List.length_map]; omega)) ?_
   refine bS (by (try simp (disch := omega) only [fwI]); exact hx) ?_
   refine (jS (v := ((((if c = 11 then e else i + 1) : Nat) : Int), (i : Int), (a : Int), acc)) (fun j => ?_)).trans ?_
   ·by_cases h11 : c = 11
    ·refine iF (by rw [fx, dT (by omega)]; rfl) ?_
     rw [if_pos h11]
    ·refine iT (by rw [fx, dF (by omega)]; rfl) ?_
     rw [if_neg h11, fw_s (by omega)]
   ·refine bS (by (try simp (disch := omega) only [fwI]); exact hx) ?_
    refine iF (dF (by rw [fx]; omega)) ?_
    rw [fw_s (by omega)]
theorem split_l {k : Nat} {s : List Nat} (hk : s.length + 10 ≤ k) (hl : s.length ≤ 2000) {l : List (Nat × Nat × Nat)} (ht : Toks s 0 l) (cl : l.length ≤ s.length) : ∀ (f i : Nat) (r : List Nat) (acc : List S36), (kindsN l).drop i = r → r.length < f → i ≤ l.length → acc.length ≤ i →
 g29_l5 k s (l.map (mkTok s)) f (i : Int) acc = some (acc ++ (splN (blkF s l) f r i).map itm)
 | 0, i, r, acc, hr, hf, hi, ha => by omega
 | f + 1, i, [], acc, hr, hf, hi, ha => by
  have := kinds_end hr
  rw [g29_l5_s]
  refine iF (dF (by rw [List.length_map]; omega)) ?_
  simp [splN]
 | f + 1, i, c :: r, acc, hr, hf, hi, ha => by
  obtain ⟨x, hx, hc, hi⟩ := kinds_at (s := s) hr
  have fx : (mkTok s x).f0 = (c : Int) := by rw [← hc]; rfl
  rw [g29_l5_s]
  refine iT (dT (by rw [List.length_map]; omega)) ?_
  refine bS (by (try simp (disch := omega) only [fwI]); exact hx) ?_
  have rl : r.length + i + 1 = l.length := by have := drop_len hr; rw [kindsN, List.length_map] at this; exact this
  simp only [List.length_cons] at hf
  simp only [splN]
  by_cases h11 : c = 11
  ·refine iT (dT (by rw [fx]; omega)) ?_
   rw [fw_s (by omega), if_pos h11]
   refine bS (by (try simp (disch := omega) only [fwI]); exact take_at hk hl ht i (i + 1) true (acc := acc) (by omega)) ?_
   have ih := split_l hk hl ht cl f (i + 1) r (acc ++ [itm (i, i + 1, true, blkF s l i)]) (drop_step hr) (by omega) (by omega) (by simp only [List.length_append, List.length_cons, List.length_nil]; omega)
   refine ih.trans ?_
   simp only [List.append_assoc, List.map_cons, List.singleton_append]
  ·refine iF (dF (by rw [fx]; omega)) ?_
   rw [fw_s (by omega), if_neg h11]
   have b := frm_bnd r i h11
   refine (split_f hk hl ht _ _ (by omega) (by omega) i (c :: r) k i (i + 1) hr (by simp only [List.length_cons]; omega) (by omega)).trans ?_
   have hd : ∀ z, i ≤ z → (kindsN l).drop z = (c :: r).drop (z - i) := fun z hz => by rw [← hr, List.drop_drop]; congr 1; omega
   have ih := split_l hk hl ht cl f (frmN (c :: r) i (i + 1)) ((c :: r).drop (frmN (c :: r) i (i + 1) - i)) (acc ++ [itm (i, frmN (c :: r) i (i + 1), false, blkF s l i)]) (hd _ (by omega)) (by simp only [List.length_drop, List.length_cons]; omega) (by omega) (by simp only [List.length_append, List.length_cons, List.length_nil]; omega)
   refine ih.trans ?_
   simp only [List.append_assoc, List.map_cons, List.singleton_append]
theorem split_at {k : Nat} {s : List Nat} (hk : s.length + 10 ≤ k) (hl : s.length ≤ 2000) {l : List (Nat × Nat × Nat)} (ht : Toks s 0 l) : g29 k s (l.map (mkTok s)) = some ((splN (blkF s l) k (kindsN l) 0).map itm) := by
 have cl : l.length ≤ s.length := toks_len s (s.length + 1) 0 l ((toks_iff s (s.length + 1) 0 l (by omega)).2 ht) (Nat.zero_le _)
 unfold g29
 exact split_l hk hl ht cl k 0 (kindsN l) [] rfl (by rw [kindsN, List.length_map]; omega) (Nat.zero_le _) (Nat.zero_le _)
theorem splN_fuel (bl : Nat → Bool) : ∀ (f g : Nat) (r : List Nat) (i : Nat), r.length ≤ f → r.length ≤ g → splN bl f r i = splN bl g r i
 | 0, g, [], i, h, h2 => by cases g <;> rfl
 | 0, g, c :: r, i, h, h2 => by simp at h
 | f + 1, 0, [], i, h, h2 => rfl
 | f + 1, 0, c :: r, i, h, h2 => by simp at h2
 | f + 1, g + 1, [], i, h, h2 => rfl
 | f + 1, g + 1, c :: r, i, h, h2 => by
  simp only [List.length_cons] at h h2
  simp only [splN]
  split
  ·rw [splN_fuel bl f g r (i + 1) (by omega) (by omega)]
  ·rename_i hc
   have b := frm_bnd r i hc
   rw [splN_fuel bl f g _ _ (by simp only [List.length_drop, List.length_cons]; omega) (by simp only [List.length_drop, List.length_cons]; omega)]
end Go.Proofs.Ytbmijiibfaacmaa.Am
set_option maxRecDepth 100000
set_option linter.unusedVariables false
set_option linter.unusedSimpArgs false
namespace Go.Proofs.Ytbmijiibfaacmaa.Am
open Go
def eD : List Nat → Bool
 | [] => false
 | [c] => decide (c = 10)
 | _ :: c :: r => eD (c :: r)
theorem eD_tail {c : Nat} : ∀ {r : List Nat}, eD (c :: r) = true → (r = [] ∧ c = 10) ∨ eD r = true
 | [], h => .inl ⟨rfl, of_decide_eq_true h⟩
 | _ :: _, h => .inr h
theorem eD_drop : ∀ {r : List Nat} (j : Nat), eD r = true → r.drop j = [] ∨ eD (r.drop j) = true
 | r, 0, h => .inr h
 | [], j + 1, h => by cases h
 | c :: r, j + 1, h => by
  rw [List.drop_succ_cons]
  rcases eD_tail h with ⟨rfl, -⟩ | h
  ·exact .inl (by simp)
  ·exact eD_drop j h
theorem eD_of : ∀ {r : List Nat} {j : Nat}, r.drop j = [10] → eD r = true
 | r, 0, h => by rw [List.drop_zero] at h; rw [h]; rfl
 | [], j + 1, h => by simp at h
 | c :: r, j + 1, h => by
  rw [List.drop_succ_cons] at h
  have := eD_of h
  cases r with
  | nil => cases this
  | cons d r => exact this
theorem frm_app (q : List Nat) : ∀ (r : List Nat) (k e : Nat), eD r = true → frmN (r ++ q) k e = frmN r k e
 | [], k, e, h => by cases h
 | c :: r, k, e, h => by
  simp only [List.cons_append, frmN]
  by_cases h10 : c = 10
  ·rw [if_pos h10, if_pos h10]
  ·rw [if_neg h10, if_neg h10]
   rcases eD_tail h with ⟨-, h⟩ | h
   ·exact absurd h h10
   ·exact frm_app q r _ _ h
theorem frm_shift (n : Nat) : ∀ (r : List Nat) (k e : Nat), frmN r (n + k) (n + e) = n + frmN r k e
 | [], k, e => rfl
 | c :: r, k, e => by
  simp only [frmN]
  by_cases h10 : c = 10
  ·rw [if_pos h10, if_pos h10]; split <;> omega
  ·rw [if_neg h10, if_neg h10, show (if c = 11 then n + e else n + k + 1) = n + (if c = 11 then e else k + 1) from by split <;> omega]
   exact frm_shift n r (k + 1) _
theorem spl_app (bl : Nat → Bool) (q : List Nat) : ∀ (f : Nat) (r : List Nat) (i : Nat), (r = [] ∨ eD r = true) → r.length + q.length ≤ f → splN bl f (r ++ q) i = splN bl f r i ++ splN bl f q (i + r.length)
 | f, [], i, h, hf => by
  have : splN bl f [] i = [] := by cases f <;> rfl
  rw [this]; rfl
 | 0, c :: r, i, h, hf => by simp at hf
 | f + 1, c :: r, i, h, hf => by
  have h : eD (c :: r) = true := by rcases h with h | h; cases h; exact h
  simp only [List.length_cons] at hf
  rw [List.cons_append]
  simp only [splN]
  by_cases h11 : c = 11
  ·rw [if_pos h11, if_pos h11, List.cons_append, spl_app bl q f r (i + 1) ((eD_tail h).imp (fun h => h.1) id) (by omega), splN_fuel bl (f + 1) f q _ (by omega) (by omega), List.length_cons, show i + (r.length + 1) = i + 1 + r.length by omega]
  ·rw [if_neg h11, if_neg h11, show c :: (r ++ q) = (c :: r) ++ q from rfl, frm_app q (c :: r) _ _ h]
   have b := frm_bnd r i h11
   rw [List.drop_append_of_le_length (by rw [List.length_cons]; omega), spl_app bl q f _ _ (eD_drop _ h) (by simp only [List.length_drop, List.length_cons]; omega), splN_fuel bl (f + 1) f q _ (by omega) (by omega), List.length_drop, List.length_cons, List.cons_append, show frmN (c :: r) i (i + 1) + (r.length + 1 - (frmN (c :: r) i (i + 1) - i)) = i + (r.length + 1) by omega]
theorem spl_same {bl bl' : Nat → Bool} : ∀ (f : Nat) (r : List Nat) (i : Nat), (∀ j, i ≤ j → j < i + r.length → bl j = bl' j) → splN bl f r i = splN bl' f r i
 | 0, r, i, h => rfl
 | f + 1, [], i, h => rfl
 | f + 1, c :: r, i, h => by
  rw [List.length_cons] at h
  simp only [splN]
  rw [h i (Nat.le_refl _) (by omega)]
  by_cases h11 : c = 11
  ·rw [if_pos h11, if_pos h11, spl_same f r (i + 1) (fun j h1 h2 => h j (by omega) (by omega))]
  ·rw [if_neg h11, if_neg h11]
   have b := frm_bnd r i h11
   rw [spl_same f _ _ (fun j h1 h2 => h j (by omega) (by simp only [List.length_drop, List.length_cons] at h2; omega))]
theorem spl_shift (bl bl' : Nat → Bool) (n : Nat) : ∀ (f : Nat) (r : List Nat) (i : Nat), splN bl' f r (n + i) = (splN bl f r i).map (fun x => (n + x.1, n + x.2.1, x.2.2.1, bl' (n + x.1)))
 | 0, r, i => rfl
 | f + 1, [], i => rfl
 | f + 1, c :: r, i => by
  simp only [splN]
  by_cases h11 : c = 11
  ·rw [if_pos h11, if_pos h11, List.map_cons, show n + i + 1 = n + (i + 1) from rfl, spl_shift bl bl' n f r (i + 1)]
  ·rw [if_neg h11, if_neg h11, List.map_cons, show n + i + 1 = n + (i + 1) from rfl, frm_shift, show n + frmN (c :: r) i (i + 1) - (n + i) = frmN (c :: r) i (i + 1) - i by omega, spl_shift bl bl' n f _ _]
theorem spl_mem (bl : Nat → Bool) : ∀ (f : Nat) (r : List Nat) (i j : Nat) (x : Nat × Nat × Bool × Bool) (t : List (Nat × Nat × Bool × Bool)), (splN bl f r i).drop j = x :: t → x.2.2.2 = bl x.1 ∧ i + j ≤ x.1 ∧ x.1 < i + r.length ∧ x.2.1 ≤ i + r.length
 | 0, r, i, j, x, t, h => by simp [splN] at h
 | f + 1, [], i, j, x, t, h => by simp [splN] at h
 | f + 1, c :: r, i, j, x, t, h => by
  simp only [splN] at h
  by_cases h11 : c = 11
  ·rw [if_pos h11] at h
   cases j with
   | zero => rw [List.drop_zero] at h; rw [← (List.cons.inj h).1]; exact ⟨rfl, Nat.le_refl _, by rw [List.length_cons]; show i < _; omega, by rw [List.length_cons]; show i + 1 ≤ _; omega⟩
   | succ j =>
    rw [List.drop_succ_cons] at h
    have := spl_mem bl f r (i + 1) j x t h
    rw [List.length_cons]; exact ⟨this.1, by omega, by omega, by omega⟩
  ·rw [if_neg h11] at h
   have b := frm_bnd r i h11
   cases j with
   | zero => rw [List.drop_zero] at h; rw [← (List.cons.inj h).1]; exact ⟨rfl, Nat.le_refl _, by rw [List.length_cons]; show i < _; omega, by rw [List.length_cons]; show frmN (c :: r) i (i + 1) ≤ _; omega⟩
   | succ j =>
    rw [List.drop_succ_cons] at h
    have := spl_mem bl f _ _ j x t h
    simp only [List.length_drop, List.length_cons] at this ⊢
    exact ⟨this.1, by omega, by omega, by omega⟩
theorem nlF_app {s : List Nat} (b : List Nat) {e : Nat} (he : e ≤ s.length) : ∀ d i, nlF (s ++ b) e d i = nlF s e d i
 | 0, i => rfl
 | d + 1, i => by
  simp only [nlF]
  by_cases h : e ≤ i
  ·rw [if_pos h, if_pos h]
  ·rw [if_neg h, if_neg h, nlF_app b he d (i + 1), List.drop_append_of_le_length (by omega)]
   obtain ⟨c, r, hc, -, -, -⟩ := dcons (s := s) (i := i) (by omega)
   rw [hc]; rfl
theorem nlF_shift (s b : List Nat) (e : Nat) : ∀ d i, nlF (s ++ b) (s.length + e) d (s.length + i) = nlF b e d i
 | 0, i => rfl
 | d + 1, i => by
  simp only [nlF]
  by_cases h : e ≤ i
  ·rw [if_pos h, if_pos (by omega)]
  ·rw [if_neg h, if_neg (by omega), show s.length + i + 1 = s.length + (i + 1) from rfl, nlF_shift s b e d (i + 1), drop_shift]
theorem gap_app {s : List Nat} (b : List Nat) {l : List (Nat × Nat × Nat)} (m : List (Nat × Nat × Nat)) (ht : Toks s 0 l) (k : Nat) (hk : k < l.length) : gapI (s ++ b) (l ++ m) (k : Int) = gapI s l (k : Int) := by
 unfold gapI
 by_cases h : 1 ≤ (k : Int)
 ·rw [if_pos ⟨h, by rw [List.length_append]; omega⟩, if_pos ⟨h, by omega⟩, Int.toNat_natCast]
  obtain ⟨x, y, r, h1, h2, h3, h4⟩ := pair_at (l := l) (k := k) (by omega) hk
  have bY := toks_bounds ht (Nat.zero_le _) y h4
  unfold gapN
  rw [List.drop_append_of_le_length (by omega), h1]
  exact nlF_app b (by omega) _ _
 ·rw [if_neg (by omega), if_neg (by omega)]
theorem gap_shift (s b : List Nat) (l m : List (Nat × Nat × Nat)) (k : Nat) (hk : 1 ≤ k) (hm : k < m.length) : gapI (s ++ b) (l ++ m.map (shiftT s.length)) ((l.length + k : Nat) : Int) = gapI b m (k : Int) := by
 unfold gapI
 rw [if_pos ⟨by omega, by rw [List.length_append, List.length_map]; omega⟩, if_pos ⟨by omega, by omega⟩, Int.toNat_natCast, Int.toNat_natCast]
 obtain ⟨x, y, r, h1, h2, h3, h4⟩ := pair_at (l := m) (k := k) hk hm
 unfold gapN
 rw [show l.length + k - 1 = l.length + (k - 1) by omega, List.drop_append, List.drop_eq_nil_of_le (by omega), show l.length + (k - 1) - l.length = k - 1 by omega, ← List.map_drop, h1]
 show nlF (s ++ b) (s.length + y.2.1) (s.length + y.2.1 - (s.length + x.2.1 + x.2.2)) (s.length + x.2.1 + x.2.2) = nlF b y.2.1 (y.2.1 - (x.2.1 + x.2.2)) (x.2.1 + x.2.2)
 rw [show s.length + y.2.1 - (s.length + x.2.1 + x.2.2) = y.2.1 - (x.2.1 + x.2.2) by omega, show s.length + x.2.1 + x.2.2 = s.length + (x.2.1 + x.2.2) by omega]
 exact nlF_shift s b _ _ _
theorem toks_less {u : List Nat} : ∀ {l : List (Nat × Nat × Nat)} {p : Nat}, p ≤ u.length → Toks (u ++ [10]) p l → Toks u p l
 | [], p, hp, h => by
  simp only [Toks, List.length_append, List.length_cons, List.length_nil] at h ⊢
  rw [List.drop_append_of_le_length hp, skip_app] at h
  have sl := skipN_le (u.drop p)
  have dl := List.length_drop (i := p) (l := u)
  by_cases hs : skipN (u.drop p) = (u.drop p).length
  ·omega
  ·rw [if_neg hs] at h; omega
 | x :: l, p, hp, h => by
  simp only [Toks, List.length_append, List.length_cons, List.length_nil] at h ⊢
  obtain ⟨h1, h2, h3, h4, h5⟩ := h
  rw [List.drop_append_of_le_length hp, skip_app] at h1
  have sl := skipN_le (u.drop p)
  have dl := List.length_drop (i := p) (l := u)
  by_cases hs : skipN (u.drop p) = (u.drop p).length
  ·rw [if_pos hs] at h1
   have : skipN [10] = 1 := rfl
   omega
  ·rw [if_neg hs] at h1
   obtain ⟨c, r, hc, -, -, -⟩ := dcons (s := u) (i := x.2.1) (by omega)
   have hb : blkN c = false := by
    rw [h1, ← List.drop_drop] at hc
    exact skip_head hc
   rw [List.drop_append_of_le_length (by omega), hc, one_line (by rintro rfl; cases hb), ← hc] at h3
   have ol := oneN_le (u.drop x.2.1)
   rw [h3, List.length_drop] at ol
   simp only [] at ol
   exact ⟨h1, by omega, h3, h4, toks_less (by omega) h5⟩
end Go.Proofs.Ytbmijiibfaacmaa.Am
set_option maxRecDepth 100000
set_option linter.unusedVariables false
namespace Go.Proofs.Ytbmijiibfaacmaa.Am
noncomputable section
open Go
def X32 : Fx (List Nat) := ⟨Try.prog, cx, Try.f32, fun r => .str r, 0, fun _ => H0, cxTi, cxOrd⟩
def g32p0 : Pt := nav [0] (bodyAt Try.f32)
def g32p1 : Pt := nav [0, 0, 0, 0] g32p0
def g32p2 : Pt := nav [0, 0] g32p1
def g32p4 : Pt := nav [2, 0, 0] g32p2
def g32p6 : Pt := nav [0, 0, 0] g32p4
def g32p7 : Pt := nav [0, 0] g32p6
def g32p9 : Pt := nav [2, 0, 0] g32p7
def g32 (k : Nat) (a0 : (List Nat)) (a1 : (List S46)) (a2 : S36) : Option (List Nat) :=
 jn (fun (z2 : Bool) => if z2 then (some ([] : List Nat)) else ((nthL a1 a2.f0).bind fun x0_3 => (nthL a1 (fW .i64 (a2.f1 - 1))).bind fun x0_10 => (g38 k (⟨x0_10.f0, x0_10.f1, x0_10.f2⟩ : S46)).bind fun x0_12 => jn (fun (z3 : Bool) => if z3 then (some ([] : List Nat)) else ((subL a0 (some x0_3.f2) (some x0_12)).bind fun x1_3 => some x1_3)) (fun j3 => if (decide (x0_3.f2 < 0)) then (j3 true) else (if (decide ((a0.length : Int) < x0_12)) then (j3 true) else (j3 (decide (x0_12 < x0_3.f2))))))) (fun j2 => if (decide (a2.f0 < 0)) then (j2 true) else (if (decide ((a1.length : Int) < a2.f1)) then (j2 true) else (j2 (decide (a2.f1 ≤ a2.f0)))))
theorem g32_ok (k : Nat) (a0 : (List Nat)) (a1 : (List S46)) (a2 : S36) (r : (List Nat)) (h : g32 k a0 a1 a2 = some r) : PureOk Try.prog 32 [.str a0, .vec (a1).length 3 ((a1).flatMap e47), .agg [.int .i64 a2.f0, .int .i64 a2.f1, .bool a2.f2, .bool a2.f3]] (.str r) := by
 refine pure_of X32 (fun _ => rfl) Try.func32 (by decide +kernel) (by kernel_rfl) (t := g32 k a0 a1 a2) ?_ h
 unfold g32
 refine oE (eE := [(0, .str a0), (1, .vec (a1).length 3 ((a1).flatMap e47)), (2, .agg [.int .i64 a2.f0, .int .i64 a2.f1, .bool a2.f2, .bool a2.f3])]) (by kernel_rfl) ?_
 let E1 : Env := [(12, .bool (decide (a2.f0 < 0))), (11, .bool (decide (a2.f0 < 0))), (10, .int .i64 a2.f0), (9, .ptr 0 4 0), (6, .str []), (5, .ptr 0 4 0), (0, .str a0), (1, .vec (a1).length 3 ((a1).flatMap e47)), (2, .agg [.int .i64 a2.f0, .int .i64 a2.f1, .bool a2.f2, .bool a2.f3])]
 refine oR 12 (p' := (atN 4 (ctl1 g32p1))) (eE := E1) (H' := (mkH [⟨[.int .i64 a2.f0, .int .i64 a2.f1, .bool a2.f2, .bool a2.f3], 0, false⟩])) (by kernel_rfl) ?_
 refine oJ (f := fun (z2 : Bool) => if z2 then (some ([] : List Nat)) else ((nthL a1 a2.f0).bind fun x0_3 => (nthL a1 (fW .i64 (a2.f1 - 1))).bind fun x0_10 => (g38 k (⟨x0_10.f0, x0_10.f1, x0_10.f2⟩ : S46)).bind fun x0_12 => jn (fun (z3 : Bool) => if z3 then (some ([] : List Nat)) else ((subL a0 (some x0_3.f2) (some x0_12)).bind fun x1_3 => some x1_3)) (fun j3 => if (decide (x0_3.f2 < 0)) then (j3 true) else (if (decide ((a0.length : Int) < x0_12)) then (j3 true) else (j3 (decide (x0_12 < x0_3.f2))))))) g32p2 (fun (z2 : Bool) => [(0, .str a0), (1, .vec (a1).length 3 ((a1).flatMap e47)), (5, .ptr 0 4 0), (25, .bool z2)]) (fun (z2 : Bool) => (mkH [⟨[.int .i64 a2.f0, .int .i64 a2.f1, .bool a2.f2, .bool a2.f3], 0, false⟩])) (fun z2 => ?_) (fun j2 hj2 => ?_)
 ·refine oS 25 (b := z2) (by kernel_rfl) (fun hb => ?_) (fun hb => ?_)
  ·let E2 : Env := [(6, .str []), (25, .bool true), (0, .str a0), (1, .vec (a1).length 3 ((a1).flatMap e47)), (5, .ptr 0 4 0), (25, .bool z2)]
   refine oR 6 (p' := .fin) (eE := E2) (H' := (mkH [⟨[.int .i64 a2.f0, .int .i64 a2.f1, .bool a2.f2, .bool a2.f3], 0, false⟩])) (by kernel_rfl) ?_
   exact oT (r := ([] : List Nat)) (xs := [.str []]) (v := .str []) (by kernel_rfl) (by kernel_rfl) (by kernel_rfl) (.pures (by kernel_rfl)) (by kernel_rfl)
  ·let E3 : Env := [(25, .bool false), (0, .str a0), (1, .vec (a1).length 3 ((a1).flatMap e47)), (5, .ptr 0 4 0), (25, .bool z2)]
   refine oR 3 (p' := g32p4) (eE := E3) (H' := (mkH [⟨[.int .i64 a2.f0, .int .i64 a2.f1, .bool a2.f2, .bool a2.f3], 0, false⟩])) (by kernel_rfl) ?_
   refine ok_bind (fun x0_3 hx0_3 => ?_)
   refine ok_bind (fun x0_10 hx0_10 => ?_)
   refine ok_bind (fun x0_12 hx0_12 => ?_)
   let E4 : Env := [(28, .int .i64 a2.f0), (27, .ptr 0 4 0), (26, .vec (a1).length 3 ((a1).flatMap e47)), (25, .bool false), (0, .str a0), (1, .vec (a1).length 3 ((a1).flatMap e47)), (5, .ptr 0 4 0), (25, .bool z2)]
   let E5 : Env := ((35, .int .i64 (fW .i64 (a2.f1 - 1))) :: (34, .int .i64 a2.f1) :: (33, .ptr 0 4 1) :: (32, .vec (a1).length 3 ((a1).flatMap e47)) :: (31, .int .i64 x0_3.f2) :: (30, .vptr [.int .i64 x0_3.f2]) :: (29, .vptr [.int .i64 x0_3.f0, .str x0_3.f1, .int .i64 x0_3.f2]) :: E4)
   let E6 : Env := ((8, .int .i64 x0_12) :: (7, .int .i64 x0_3.f2) :: (38, .int .i64 x0_12) :: (37, .agg [.int .i64 x0_10.f0, .str x0_10.f1, .int .i64 x0_10.f2]) :: (36, .vptr [.int .i64 x0_10.f0, .str x0_10.f1, .int .i64 x0_10.f2]) :: E5)
   refine ok_draw (p' := nav [0] g32p4) (eE := E6) (H' := (mkH [⟨[.int .i64 a2.f0, .int .i64 a2.f1, .bool a2.f2, .bool a2.f3], 0, false⟩])) (hs := [(mkH [⟨[.int .i64 a2.f0, .int .i64 a2.f1, .bool a2.f2, .bool a2.f3], 0, false⟩])]) [(0, 0, 0), (0, 0, 0), (2, 0, 1), (7, 0, 0), (15, 0, 0), (31, 0, 1), (0, 0, 0), (0, 0, 0), (128, 0, 0), (384, 0, 0), (960, 0, 0), (1984, 0, 0), (4032, 0, 0), (8191, 0, 0), (16383, 0, 0)] (by kernel_rfl) (by kernel_rfl) (by kernel_rfl) (opsD_run 3 (l' := (opsAt g32p4).toList.drop 3) (eE := E4) (H' := (mkH [⟨[.int .i64 a2.f0, .int .i64 a2.f1, .bool a2.f2, .bool a2.f3], 0, false⟩])) (hs := []) (by kernel_rfl) (opsD_chk (l' := (opsAt g32p4).toList.drop 4) (eE := ((29, .vptr [.int .i64 x0_3.f0, .str x0_3.f1, .int .i64 x0_3.f2]) :: E4)) (hs := []) (x := x0_3) (fun (x0_3 : S46) => (.vptr [.int .i64 x0_3.f0, .str x0_3.f1, .int .i64 x0_3.f2], (mkH [⟨[.int .i64 a2.f0, .int .i64 a2.f1, .bool a2.f2, .bool a2.f3], 0, false⟩]))) (vidxH (sz := 3) e47_len (by kernel_rfl)) hx0_3 (by kernel_rfl) (opsD_run 6 (l' := (opsAt g32p4).toList.drop 10) (eE := E5) (H' := (mkH [⟨[.int .i64 a2.f0, .int .i64 a2.f1, .bool a2.f2, .bool a2.f3], 0, false⟩])) (hs := []) (by kernel_rfl) (opsD_chk (l' := (opsAt g32p4).toList.drop 11) (eE := ((36, .vptr [.int .i64 x0_10.f0, .str x0_10.f1, .int .i64 x0_10.f2]) :: E5)) (hs := []) (x := x0_10) (fun (x0_10 : S46) => (.vptr [.int .i64 x0_10.f0, .str x0_10.f1, .int .i64 x0_10.f2], (mkH [⟨[.int .i64 a2.f0, .int .i64 a2.f1, .bool a2.f2, .bool a2.f3], 0, false⟩]))) (vidxH (sz := 3) e47_len (by kernel_rfl)) hx0_10 (by kernel_rfl) (opsD_run 1 (l' := (opsAt g32p4).toList.drop 12) (eE := ((37, .agg [.int .i64 x0_10.f0, .str x0_10.f1, .int .i64 x0_10.f2]) :: (36, .vptr [.int .i64 x0_10.f0, .str x0_10.f1, .int .i64 x0_10.f2]) :: E5)) (H' := (mkH [⟨[.int .i64 a2.f0, .int .i64 a2.f1, .bool a2.f2, .bool a2.f3], 0, false⟩])) (hs := []) (by kernel_rfl) (opsD_call (l' := (opsAt g32p4).toList.drop 13) (eE := ((38, .int .i64 x0_12) :: (37, .agg [.int .i64 x0_10.f0, .str x0_10.f1, .int .i64 x0_10.f2]) :: (36, .vptr [.int .i64 x0_10.f0, .str x0_10.f1, .int .i64 x0_10.f2]) :: E5)) (hs := [(mkH [⟨[.int .i64 a2.f0, .int .i64 a2.f1, .bool a2.f2, .bool a2.f3], 0, false⟩])]) (fi := 38) (args := [.agg [.int .i64 x0_10.f0, .str x0_10.f1, .int .i64 x0_10.f2]]) (v := .int .i64 x0_12) (by kernel_rfl) (by kernel_rfl) (by kernel_rfl) (g38_ok k (⟨x0_10.f0, x0_10.f1, x0_10.f2⟩ : S46) x0_12 hx0_12) (by kernel_rfl) (opsD_run 2 (l' := (opsAt g32p4).toList.drop 15) (eE := E6) (H' := (mkH [⟨[.int .i64 a2.f0, .int .i64 a2.f1, .bool a2.f2, .bool a2.f3], 0, false⟩])) (hs := []) (by kernel_rfl) (.nil)))))))) (by kernel_rfl) (by kernel_rfl) (by kernel_rfl) ?_
   refine oR 6 (p' := (atN 3 (ctl1 g32p6))) (eE := ((41, .bool (decide (x0_3.f2 < 0))) :: (40, .bool (decide (x0_3.f2 < 0))) :: (39, .int .i64 x0_3.f2) :: E6)) (H' := (mkH [⟨[.int .i64 a2.f0, .int .i64 a2.f1, .bool a2.f2, .bool a2.f3], 0, false⟩])) (by kernel_rfl) ?_
   refine oJ (f := fun (z3 : Bool) => if z3 then (some ([] : List Nat)) else ((subL a0 (some x0_3.f2) (some x0_12)).bind fun x1_3 => some x1_3)) g32p7 (fun (z3 : Bool) => [(0, .str a0), (7, .int .i64 x0_3.f2), (8, .int .i64 x0_12), (51, .bool z3)]) (fun (z3 : Bool) => (mkH [])) (fun z3 => ?_) (fun j3 hj3 => ?_)
   ·refine oS 51 (b := z3) (by kernel_rfl) (fun hb => ?_) (fun hb => ?_)
    ·let E7 : Env := [(6, .str []), (51, .bool true), (0, .str a0), (7, .int .i64 x0_3.f2), (8, .int .i64 x0_12), (51, .bool z3)]
     refine oR 6 (p' := .fin) (eE := E7) (H' := (mkH [])) (by kernel_rfl) ?_
     exact oT (r := ([] : List Nat)) (xs := [.str []]) (v := .str []) (by kernel_rfl) (by kernel_rfl) (by kernel_rfl) (.pures (by kernel_rfl)) (by kernel_rfl)
    ·let E8 : Env := [(54, .int .i64 x0_12), (53, .int .i64 x0_3.f2), (52, .str a0), (51, .bool false), (0, .str a0), (7, .int .i64 x0_3.f2), (8, .int .i64 x0_12), (51, .bool z3)]
     refine oR 7 (p' := (atN 3 (ctl1 g32p9))) (eE := E8) (H' := (mkH [])) (by kernel_rfl) ?_
     refine oH (fun (x1_3 : (List Nat)) => (.str x1_3, (mkH []))) (atN 4 (ctl1 g32p9)) (fun x1_3 => ((55, .str x1_3) :: E8)) (subH (some x0_3.f2) (some x0_12) (by kernel_rfl)) (fun _ => by kernel_rfl) (fun x1_3 hx1_3 => ?_)
     refine oR 3 (p' := .fin) (eE := ((6, .str x1_3) :: (55, .str x1_3) :: E8)) (H' := (mkH [])) (by kernel_rfl) ?_
     exact oT (r := x1_3) (xs := [.str x1_3]) (v := .str x1_3) (by kernel_rfl) (by kernel_rfl) (by kernel_rfl) (.pures (by kernel_rfl)) (by kernel_rfl)
   ·refine oS 41 (b := decide (x0_3.f2 < 0)) (by kernel_rfl) (fun hb => ?_) (fun hb => ?_)
    ·let E9 : Env := ((51, .bool true) :: (50, .tuple []) :: (49, .tuple []) :: (48, .tuple []) :: (47, .bool true) :: (46, .bool true) :: (45, .tuple []) :: (44, .tuple []) :: (43, .tuple []) :: (42, .tuple []) :: (41, .bool true) :: (41, .bool (decide (x0_3.f2 < 0))) :: (40, .bool (decide (x0_3.f2 < 0))) :: (39, .int .i64 x0_3.f2) :: E6)
     refine oR 11 (p' := g32p7) (eE := E9) (H' := (mkH [⟨[.int .i64 a2.f0, .int .i64 a2.f1, .bool a2.f2, .bool a2.f3], 0, false⟩])) (by kernel_rfl) ?_
     refine oK [0, 7, 8, 51] (eE := [(0, .str a0), (7, .int .i64 x0_3.f2), (8, .int .i64 x0_12), (51, .bool true)]) (by kernel_rfl) ?_
     refine ok_cut [] [⟨[.int .i64 a2.f0, .int .i64 a2.f1, .bool a2.f2, .bool a2.f3], 0, false⟩] (by kernel_rfl) rfl (by kernel_rfl) trivial ?_
     exact hj3 true
    ·let E10 : Env := ((47, .bool (decide ((a0.length : Int) < x0_12))) :: (46, .bool (decide ((a0.length : Int) < x0_12))) :: (45, .bool (decide ((a0.length : Int) < x0_12))) :: (44, .int .i64 (a0.length : Int)) :: (43, .str a0) :: (42, .int .i64 x0_12) :: (41, .bool false) :: (41, .bool (decide (x0_3.f2 < 0))) :: (40, .bool (decide (x0_3.f2 < 0))) :: (39, .int .i64 x0_3.f2) :: E6)
     refine oR 6 (p' := (atN 9 (ctl1 g32p6))) (eE := E10) (H' := (mkH [⟨[.int .i64 a2.f0, .int .i64 a2.f1, .bool a2.f2, .bool a2.f3], 0, false⟩])) (by kernel_rfl) ?_
     refine oS 47 (b := decide ((a0.length : Int) < x0_12)) (by kernel_rfl) (fun hb => ?_) (fun hb => ?_)
     ·let E11 : Env := ((51, .bool true) :: (50, .tuple []) :: (49, .tuple []) :: (48, .tuple []) :: (47, .bool true) :: E10)
      refine oR 5 (p' := g32p7) (eE := E11) (H' := (mkH [⟨[.int .i64 a2.f0, .int .i64 a2.f1, .bool a2.f2, .bool a2.f3], 0, false⟩])) (by kernel_rfl) ?_
      refine oK [0, 7, 8, 51] (eE := [(0, .str a0), (7, .int .i64 x0_3.f2), (8, .int .i64 x0_12), (51, .bool true)]) (by kernel_rfl) ?_
      refine ok_cut [] [⟨[.int .i64 a2.f0, .int .i64 a2.f1, .bool a2.f2, .bool a2.f3], 0, false⟩] (by kernel_rfl) rfl (by kernel_rfl) trivial ?_
      exact hj3 true
     ·let E12 : Env := ((51, .bool (decide (x0_12 < x0_3.f2))) :: (50, .bool (decide (x0_12 < x0_3.f2))) :: (49, .int .i64 x0_12) :: (48, .int .i64 x0_3.f2) :: (47, .bool false) :: E10)
      refine oR 5 (p' := g32p7) (eE := E12) (H' := (mkH [⟨[.int .i64 a2.f0, .int .i64 a2.f1, .bool a2.f2, .bool a2.f3], 0, false⟩])) (by kernel_rfl) ?_
      refine oK [0, 7, 8, 51] (eE := [(0, .str a0), (7, .int .i64 x0_3.f2), (8, .int .i64 x0_12), (51, .bool (decide (x0_12 < x0_3.f2)))]) (by kernel_rfl) ?_
      refine ok_cut [] [⟨[.int .i64 a2.f0, .int .i64 a2.f1, .bool a2.f2, .bool a2.f3], 0, false⟩] (by kernel_rfl) rfl (by kernel_rfl) trivial ?_
      exact hj3 (decide (x0_12 < x0_3.f2))
 ·refine oS 12 (b := decide (a2.f0 < 0)) (by kernel_rfl) (fun hb => ?_) (fun hb => ?_)
  ·let E13 : Env := ((25, .bool true) :: (24, .tuple []) :: (23, .tuple []) :: (22, .tuple []) :: (21, .tuple []) :: (20, .tuple []) :: (19, .bool true) :: (18, .bool true) :: (17, .tuple []) :: (16, .tuple []) :: (15, .tuple []) :: (14, .tuple []) :: (13, .tuple []) :: (12, .bool true) :: E1)
   refine oR 14 (p' := g32p2) (eE := E13) (H' := (mkH [⟨[.int .i64 a2.f0, .int .i64 a2.f1, .bool a2.f2, .bool a2.f3], 0, false⟩])) (by kernel_rfl) ?_
   refine oK [0, 1, 5, 25] (eE := [(0, .str a0), (1, .vec (a1).length 3 ((a1).flatMap e47)), (5, .ptr 0 4 0), (25, .bool true)]) (by kernel_rfl) ?_
   exact hj2 true
  ·let E14 : Env := ((19, .bool (decide ((a1.length : Int) < a2.f1))) :: (18, .bool (decide ((a1.length : Int) < a2.f1))) :: (17, .bool (decide ((a1.length : Int) < a2.f1))) :: (16, .int .i64 (a1.length : Int)) :: (15, .vec (a1).length 3 ((a1).flatMap e47)) :: (14, .int .i64 a2.f1) :: (13, .ptr 0 4 1) :: (12, .bool false) :: E1)
   refine oR 7 (p' := (atN 11 (ctl1 g32p1))) (eE := E14) (H' := (mkH [⟨[.int .i64 a2.f0, .int .i64 a2.f1, .bool a2.f2, .bool a2.f3], 0, false⟩])) (by kernel_rfl) ?_
   refine oS 19 (b := decide ((a1.length : Int) < a2.f1)) (by kernel_rfl) (fun hb => ?_) (fun hb => ?_)
   ·let E15 : Env := ((25, .bool true) :: (24, .tuple []) :: (23, .tuple []) :: (22, .tuple []) :: (21, .tuple []) :: (20, .tuple []) :: (19, .bool true) :: E14)
    refine oR 7 (p' := g32p2) (eE := E15) (H' := (mkH [⟨[.int .i64 a2.f0, .int .i64 a2.f1, .bool a2.f2, .bool a2.f3], 0, false⟩])) (by kernel_rfl) ?_
    refine oK [0, 1, 5, 25] (eE := [(0, .str a0), (1, .vec (a1).length 3 ((a1).flatMap e47)), (5, .ptr 0 4 0), (25, .bool true)]) (by kernel_rfl) ?_
    exact hj2 true
   ·let E16 : Env := ((25, .bool (decide (a2.f1 ≤ a2.f0))) :: (24, .bool (decide (a2.f1 ≤ a2.f0))) :: (23, .int .i64 a2.f1) :: (22, .ptr 0 4 1) :: (21, .int .i64 a2.f0) :: (20, .ptr 0 4 0) :: (19, .bool false) :: E14)
    refine oR 7 (p' := g32p2) (eE := E16) (H' := (mkH [⟨[.int .i64 a2.f0, .int .i64 a2.f1, .bool a2.f2, .bool a2.f3], 0, false⟩])) (by kernel_rfl) ?_
    refine oK [0, 1, 5, 25] (eE := [(0, .str a0), (1, .vec (a1).length 3 ((a1).flatMap e47)), (5, .ptr 0 4 0), (25, .bool (decide (a2.f1 ≤ a2.f0)))]) (by kernel_rfl) ?_
    exact hj2 (decide (a2.f1 ≤ a2.f0))
end
end Go.Proofs.Ytbmijiibfaacmaa.Am
set_option maxRecDepth 100000
set_option linter.unusedVariables false
namespace Go.Proofs.Ytbmijiibfaacmaa.Am
noncomputable section
open Go
def X27 : Fx Bool := ⟨Try.prog, cx, Try.f27, fun r => .bool r, 0, fun _ => H0, cxTi, cxOrd⟩
def g27c0 : List Nat := [37, 97, 10, 102, 40, 41, 32, 45, 62, 32, 111, 107, 46, 32, 37, 98]
def g27c1 : List Nat := [102, 40, 41, 32, 45, 62, 32, 111, 107, 46]
def g27p0 : Pt := nav [0] (bodyAt Try.f27)
def g27p1 : Pt := nav [0, 0, 0] g27p0
def g27p2 : Pt := nav [0, 0, 0] g27p1
def g27p3 : Pt := nav [0, 0, 0] g27p2
def g27p4 : Pt := nav [0, 0, 0] g27p3
def g27 (k : Nat)  : Option Bool :=
 (g28 k g27c0).bind fun x0_1 => (g29 k g27c0 x0_1.1).bind fun x1_2 => if (decide (x0_1.2 = 0)) then (if (decide ((x1_2.length : Int) = 3)) then ((nthL x1_2 0).bind fun x2_9 => if x2_9.f2 then ((nthL x1_2 1).bind fun x2_15 => if (!x2_15.f2) then ((nthL x1_2 2).bind fun x2_22 => if x2_22.f2 then ((nthL x1_2 1).bind fun x2_30 => (g32 k g27c0 x0_1.1 (⟨x2_30.f0, x2_30.f1, x2_30.f2, x2_30.f3⟩ : S36)).bind fun x2_32 => if (eqL x2_32 g27c1) then ((g32 k g27c0 x0_1.1 (⟨(0 : Int), (0 : Int), false, false⟩ : S36)).bind fun x2_39 => some (eqL x2_39 [])) else (some false)) else (some false)) else (some false)) else (some false)) else (some false)) else (some false)
theorem g27_ok (k : Nat)  (r : Bool) (h : g27 k  = some r) : PureOk Try.prog 27 [] (.bool r) := by
 refine pure_of X27 (fun _ => rfl) Try.func27 (by decide +kernel) (by kernel_rfl) (t := g27 k ) ?_ h
 unfold g27
 refine oE (eE := []) (by kernel_rfl) ?_
 refine oR 11 (p' := (atN 1 (ctl1 g27p2))) (eE := [(6, .str g27c0), (1, .str g27c0), (0, .bool false)]) (H' := (mkH [])) (by kernel_rfl) ?_
 refine oC (fun (x0_1 : ((List S46) × Int)) => .tuple [.vec (x0_1.1).length 3 ((x0_1.1).flatMap e47), .int .i64 x0_1.2]) (atN 2 (ctl1 g27p2)) (fun x0_1 => [(7, .tuple [.vec (x0_1.1).length 3 ((x0_1.1).flatMap e47), .int .i64 x0_1.2]), (6, .str g27c0), (1, .str g27c0), (0, .bool false)]) (fi := 28) (args := [.str g27c0]) (by kernel_rfl) (by kernel_rfl) (fun _ => by kernel_rfl) (fun r h => g28_ok k g27c0 r h) (fun _ => by kernel_rfl) (fun x0_1 hx0_1 => ?_)
 let E1 : Env := [(11, .vec (x0_1.1).length 3 ((x0_1.1).flatMap e47)), (10, .str g27c0), (3, .int .i64 x0_1.2), (2, .vec (x0_1.1).length 3 ((x0_1.1).flatMap e47)), (9, .int .i64 x0_1.2), (8, .vec (x0_1.1).length 3 ((x0_1.1).flatMap e47)), (5, .tuple [.vec (x0_1.1).length 3 ((x0_1.1).flatMap e47), .int .i64 x0_1.2]), (7, .tuple [.vec (x0_1.1).length 3 ((x0_1.1).flatMap e47), .int .i64 x0_1.2]), (6, .str g27c0), (1, .str g27c0), (0, .bool false)]
 refine oR 10 (p' := (atN 2 (ctl1 g27p3))) (eE := E1) (H' := (mkH [])) (by kernel_rfl) ?_
 refine oC (fun (x1_2 : (List S36)) => .vec (x1_2).length 4 ((x1_2).flatMap e37)) (atN 3 (ctl1 g27p3)) (fun x1_2 => ((12, .vec (x1_2).length 4 ((x1_2).flatMap e37)) :: E1)) (fi := 29) (args := [.str g27c0, .vec (x0_1.1).length 3 ((x0_1.1).flatMap e47)]) (by kernel_rfl) (by kernel_rfl) (fun _ => by kernel_rfl) (fun r h => g29_ok k g27c0 x0_1.1 r h) (fun _ => by kernel_rfl) (fun x1_2 hx1_2 => ?_)
 refine oR 3 (p' := g27p4) (eE := ((4, .vec (x1_2).length 4 ((x1_2).flatMap e37)) :: (12, .vec (x1_2).length 4 ((x1_2).flatMap e37)) :: E1)) (H' := (mkH [])) (by kernel_rfl) ?_
 refine oK [1, 2, 3, 4] (eE := [(1, .str g27c0), (2, .vec (x0_1.1).length 3 ((x0_1.1).flatMap e47)), (3, .int .i64 x0_1.2), (4, .vec (x1_2).length 4 ((x1_2).flatMap e37))]) (by kernel_rfl) ?_
 let E2 : Env := [(15, .bool (decide (x0_1.2 = 0))), (14, .bool (decide (x0_1.2 = 0))), (13, .int .i64 x0_1.2), (1, .str g27c0), (2, .vec (x0_1.1).length 3 ((x0_1.1).flatMap e47)), (3, .int .i64 x0_1.2), (4, .vec (x1_2).length 4 ((x1_2).flatMap e37))]
 refine oR 4 (p' := (atN 3 (ctl1 g27p4))) (eE := E2) (H' := (mkH [])) (by kernel_rfl) ?_
 refine oS 15 (b := decide (x0_1.2 = 0)) (by kernel_rfl) (fun hb => ?_) (fun hb => ?_)
 ·let E3 : Env := ((20, .bool (decide ((x1_2.length : Int) = 3))) :: (19, .bool (decide ((x1_2.length : Int) = 3))) :: (18, .bool (decide ((x1_2.length : Int) = 3))) :: (17, .int .i64 (x1_2.length : Int)) :: (16, .vec (x1_2).length 4 ((x1_2).flatMap e37)) :: (15, .bool true) :: E2)
  refine oR 5 (p' := (atN 8 (ctl1 g27p4))) (eE := E3) (H' := (mkH [])) (by kernel_rfl) ?_
  refine oS 20 (b := decide ((x1_2.length : Int) = 3)) (by kernel_rfl) (fun hb => ?_) (fun hb => ?_)
  ·refine oR 1 (p' := (atN 9 (ctl1 g27p4))) (eE := ((21, .vec (x1_2).length 4 ((x1_2).flatMap e37)) :: (20, .bool true) :: E3)) (H' := (mkH [])) (by kernel_rfl) ?_
   refine oH (fun (x2_9 : S36) => (.vptr [.int .i64 x2_9.f0, .int .i64 x2_9.f1, .bool x2_9.f2, .bool x2_9.f3], (mkH []))) (atN 10 (ctl1 g27p4)) (fun x2_9 => ((22, .vptr [.int .i64 x2_9.f0, .int .i64 x2_9.f1, .bool x2_9.f2, .bool x2_9.f3]) :: (21, .vec (x1_2).length 4 ((x1_2).flatMap e37)) :: (20, .bool true) :: E3)) (vidxH (sz := 4) e37_len (by kernel_rfl)) (fun _ => by kernel_rfl) (fun x2_9 hx2_9 => ?_)
   let E4 : Env := ((26, .bool x2_9.f2) :: (25, .bool x2_9.f2) :: (24, .bool x2_9.f2) :: (23, .vptr [.bool x2_9.f2, .bool x2_9.f3]) :: (22, .vptr [.int .i64 x2_9.f0, .int .i64 x2_9.f1, .bool x2_9.f2, .bool x2_9.f3]) :: (21, .vec (x1_2).length 4 ((x1_2).flatMap e37)) :: (20, .bool true) :: E3)
   refine oR 4 (p' := (atN 14 (ctl1 g27p4))) (eE := E4) (H' := (mkH [])) (by kernel_rfl) ?_
   refine oS 26 (b := x2_9.f2) (by kernel_rfl) (fun hb => ?_) (fun hb => ?_)
   ·refine oR 1 (p' := (atN 15 (ctl1 g27p4))) (eE := ((27, .vec (x1_2).length 4 ((x1_2).flatMap e37)) :: (26, .bool true) :: E4)) (H' := (mkH [])) (by kernel_rfl) ?_
    refine oH (fun (x2_15 : S36) => (.vptr [.int .i64 x2_15.f0, .int .i64 x2_15.f1, .bool x2_15.f2, .bool x2_15.f3], (mkH []))) (atN 16 (ctl1 g27p4)) (fun x2_15 => ((28, .vptr [.int .i64 x2_15.f0, .int .i64 x2_15.f1, .bool x2_15.f2, .bool x2_15.f3]) :: (27, .vec (x1_2).length 4 ((x1_2).flatMap e37)) :: (26, .bool true) :: E4)) (vidxH (sz := 4) e37_len (by kernel_rfl)) (fun _ => by kernel_rfl) (fun x2_15 hx2_15 => ?_)
    let E5 : Env := ((33, .bool (!x2_15.f2)) :: (32, .bool (!x2_15.f2)) :: (31, .bool (!x2_15.f2)) :: (30, .bool x2_15.f2) :: (29, .vptr [.bool x2_15.f2, .bool x2_15.f3]) :: (28, .vptr [.int .i64 x2_15.f0, .int .i64 x2_15.f1, .bool x2_15.f2, .bool x2_15.f3]) :: (27, .vec (x1_2).length 4 ((x1_2).flatMap e37)) :: (26, .bool true) :: E4)
    refine oR 5 (p' := (atN 21 (ctl1 g27p4))) (eE := E5) (H' := (mkH [])) (by kernel_rfl) ?_
    refine oS 33 (b := !x2_15.f2) (by kernel_rfl) (fun hb => ?_) (fun hb => ?_)
    ·refine oR 1 (p' := (atN 22 (ctl1 g27p4))) (eE := ((34, .vec (x1_2).length 4 ((x1_2).flatMap e37)) :: (33, .bool true) :: E5)) (H' := (mkH [])) (by kernel_rfl) ?_
     refine oH (fun (x2_22 : S36) => (.vptr [.int .i64 x2_22.f0, .int .i64 x2_22.f1, .bool x2_22.f2, .bool x2_22.f3], (mkH []))) (atN 23 (ctl1 g27p4)) (fun x2_22 => ((35, .vptr [.int .i64 x2_22.f0, .int .i64 x2_22.f1, .bool x2_22.f2, .bool x2_22.f3]) :: (34, .vec (x1_2).length 4 ((x1_2).flatMap e37)) :: (33, .bool true) :: E5)) (vidxH (sz := 4) e37_len (by kernel_rfl)) (fun _ => by kernel_rfl) (fun x2_22 hx2_22 => ?_)
     let E6 : Env := ((39, .bool x2_22.f2) :: (38, .bool x2_22.f2) :: (37, .bool x2_22.f2) :: (36, .vptr [.bool x2_22.f2, .bool x2_22.f3]) :: (35, .vptr [.int .i64 x2_22.f0, .int .i64 x2_22.f1, .bool x2_22.f2, .bool x2_22.f3]) :: (34, .vec (x1_2).length 4 ((x1_2).flatMap e37)) :: (33, .bool true) :: E5)
     refine oR 4 (p' := (atN 27 (ctl1 g27p4))) (eE := E6) (H' := (mkH [])) (by kernel_rfl) ?_
     refine oS 39 (b := x2_22.f2) (by kernel_rfl) (fun hb => ?_) (fun hb => ?_)
     ·refine oR 3 (p' := (atN 30 (ctl1 g27p4))) (eE := ((42, .vec (x1_2).length 4 ((x1_2).flatMap e37)) :: (41, .vec (x0_1.1).length 3 ((x0_1.1).flatMap e47)) :: (40, .str g27c0) :: (39, .bool true) :: E6)) (H' := (mkH [])) (by kernel_rfl) ?_
      refine oH (fun (x2_30 : S36) => (.vptr [.int .i64 x2_30.f0, .int .i64 x2_30.f1, .bool x2_30.f2, .bool x2_30.f3], (mkH []))) (atN 31 (ctl1 g27p4)) (fun x2_30 => ((43, .vptr [.int .i64 x2_30.f0, .int .i64 x2_30.f1, .bool x2_30.f2, .bool x2_30.f3]) :: (42, .vec (x1_2).length 4 ((x1_2).flatMap e37)) :: (41, .vec (x0_1.1).length 3 ((x0_1.1).flatMap e47)) :: (40, .str g27c0) :: (39, .bool true) :: E6)) (vidxH (sz := 4) e37_len (by kernel_rfl)) (fun _ => by kernel_rfl) (fun x2_30 hx2_30 => ?_)
      let E7 : Env := ((44, .agg [.int .i64 x2_30.f0, .int .i64 x2_30.f1, .bool x2_30.f2, .bool x2_30.f3]) :: (43, .vptr [.int .i64 x2_30.f0, .int .i64 x2_30.f1, .bool x2_30.f2, .bool x2_30.f3]) :: (42, .vec (x1_2).length 4 ((x1_2).flatMap e37)) :: (41, .vec (x0_1.1).length 3 ((x0_1.1).flatMap e47)) :: (40, .str g27c0) :: (39, .bool true) :: E6)
      refine oR 1 (p' := (atN 32 (ctl1 g27p4))) (eE := E7) (H' := (mkH [])) (by kernel_rfl) ?_
      refine oC (fun (x2_32 : (List Nat)) => .str x2_32) (atN 33 (ctl1 g27p4)) (fun x2_32 => ((45, .str x2_32) :: E7)) (fi := 32) (args := [.str g27c0, .vec (x0_1.1).length 3 ((x0_1.1).flatMap e47), .agg [.int .i64 x2_30.f0, .int .i64 x2_30.f1, .bool x2_30.f2, .bool x2_30.f3]]) (by kernel_rfl) (by kernel_rfl) (fun _ => by kernel_rfl) (fun r h => g32_ok k g27c0 x0_1.1 (⟨x2_30.f0, x2_30.f1, x2_30.f2, x2_30.f3⟩ : S36) r h) (fun _ => by kernel_rfl) (fun x2_32 hx2_32 => ?_)
      refine oR 3 (p' := (atN 36 (ctl1 g27p4))) (eE := ((48, .bool (eqL x2_32 g27c1)) :: (47, .bool (eqL x2_32 g27c1)) :: (46, .bool (eqL x2_32 g27c1)) :: (45, .str x2_32) :: E7)) (H' := (mkH [])) (by kernel_rfl) ?_
      refine oS 48 (b := eqL x2_32 g27c1) (by kernel_rfl) (fun hb => ?_) (fun hb => ?_)
      ·let E8 : Env := ((51, .agg [.int .i64 0, .int .i64 0, .bool false, .bool false]) :: (50, .vec (x0_1.1).length 3 ((x0_1.1).flatMap e47)) :: (49, .str g27c0) :: (48, .bool true) :: (48, .bool (eqL x2_32 g27c1)) :: (47, .bool (eqL x2_32 g27c1)) :: (46, .bool (eqL x2_32 g27c1)) :: (45, .str x2_32) :: E7)
       refine oR 3 (p' := (atN 39 (ctl1 g27p4))) (eE := E8) (H' := (mkH [])) (by kernel_rfl) ?_
       refine oC (fun (x2_39 : (List Nat)) => .str x2_39) (atN 40 (ctl1 g27p4)) (fun x2_39 => ((52, .str x2_39) :: E8)) (fi := 32) (args := [.str g27c0, .vec (x0_1.1).length 3 ((x0_1.1).flatMap e47), .agg [.int .i64 0, .int .i64 0, .bool false, .bool false]]) (by kernel_rfl) (by kernel_rfl) (fun _ => by kernel_rfl) (fun r h => g32_ok k g27c0 x0_1.1 (⟨(0 : Int), (0 : Int), false, false⟩ : S36) r h) (fun _ => by kernel_rfl) (fun x2_39 hx2_39 => ?_)
       refine oR 5 (p' := .fin) (eE := ((0, .bool (eqL x2_39 [])) :: (54, .bool (eqL x2_39 [])) :: (53, .bool (eqL x2_39 [])) :: (52, .str x2_39) :: E8)) (H' := (mkH [])) (by kernel_rfl) ?_
       exact oT (r := (eqL x2_39 [])) (xs := [.bool (eqL x2_39 [])]) (v := .bool (eqL x2_39 [])) (by kernel_rfl) (by kernel_rfl) (by kernel_rfl) (.pures (by kernel_rfl)) (by kernel_rfl)
      ·let E9 : Env := ((0, .bool false) :: (54, .bool false) :: (53, .tuple []) :: (52, .tuple []) :: (51, .tuple []) :: (50, .tuple []) :: (49, .tuple []) :: (48, .bool false) :: (48, .bool (eqL x2_32 g27c1)) :: (47, .bool (eqL x2_32 g27c1)) :: (46, .bool (eqL x2_32 g27c1)) :: (45, .str x2_32) :: E7)
       refine oR 9 (p' := .fin) (eE := E9) (H' := (mkH [])) (by kernel_rfl) ?_
       exact oT (r := false) (xs := [.bool false]) (v := .bool false) (by kernel_rfl) (by kernel_rfl) (by kernel_rfl) (.pures (by kernel_rfl)) (by kernel_rfl)
     ·let E10 : Env := ((0, .bool false) :: (54, .bool false) :: (53, .tuple []) :: (52, .tuple []) :: (51, .tuple []) :: (50, .tuple []) :: (49, .tuple []) :: (48, .bool false) :: (47, .bool false) :: (46, .tuple []) :: (45, .tuple []) :: (44, .tuple []) :: (43, .tuple []) :: (42, .tuple []) :: (41, .tuple []) :: (40, .tuple []) :: (39, .bool false) :: E6)
      refine oR 18 (p' := .fin) (eE := E10) (H' := (mkH [])) (by kernel_rfl) ?_
      exact oT (r := false) (xs := [.bool false]) (v := .bool false) (by kernel_rfl) (by kernel_rfl) (by kernel_rfl) (.pures (by kernel_rfl)) (by kernel_rfl)
    ·let E11 : Env := ((0, .bool false) :: (54, .bool false) :: (53, .tuple []) :: (52, .tuple []) :: (51, .tuple []) :: (50, .tuple []) :: (49, .tuple []) :: (48, .bool false) :: (47, .bool false) :: (46, .tuple []) :: (45, .tuple []) :: (44, .tuple []) :: (43, .tuple []) :: (42, .tuple []) :: (41, .tuple []) :: (40, .tuple []) :: (39, .bool false) :: (38, .bool false) :: (37, .tuple []) :: (36, .tuple []) :: (35, .tuple []) :: (34, .tuple []) :: (33, .bool false) :: E5)
     refine oR 24 (p' := .fin) (eE := E11) (H' := (mkH [])) (by kernel_rfl) ?_
     exact oT (r := false) (xs := [.bool false]) (v := .bool false) (by kernel_rfl) (by kernel_rfl) (by kernel_rfl) (.pures (by kernel_rfl)) (by kernel_rfl)
   ·let E12 : Env := ((0, .bool false) :: (54, .bool false) :: (53, .tuple []) :: (52, .tuple []) :: (51, .tuple []) :: (50, .tuple []) :: (49, .tuple []) :: (48, .bool false) :: (47, .bool false) :: (46, .tuple []) :: (45, .tuple []) :: (44, .tuple []) :: (43, .tuple []) :: (42, .tuple []) :: (41, .tuple []) :: (40, .tuple []) :: (39, .bool false) :: (38, .bool false) :: (37, .tuple []) :: (36, .tuple []) :: (35, .tuple []) :: (34, .tuple []) :: (33, .bool false) :: (32, .bool false) :: (31, .tuple []) :: (30, .tuple []) :: (29, .tuple []) :: (28, .tuple []) :: (27, .tuple []) :: (26, .bool false) :: E4)
    refine oR 31 (p' := .fin) (eE := E12) (H' := (mkH [])) (by kernel_rfl) ?_
    exact oT (r := false) (xs := [.bool false]) (v := .bool false) (by kernel_rfl) (by kernel_rfl) (by kernel_rfl) (.pures (by kernel_rfl)) (by kernel_rfl)
  ·let E13 : Env := ((0, .bool false) :: (54, .bool false) :: (53, .tuple []) :: (52, .tuple []) :: (51, .tuple []) :: (50, .tuple []) :: (49, .tuple []) :: (48, .bool false) :: (47, .bool false) :: (46, .tuple []) :: (45, .tuple []) :: (44, .tuple []) :: (43, .tuple []) :: (42, .tuple []) :: (41, .tuple []) :: (40, .tuple []) :: (39, .bool false) :: (38, .bool false) :: (37, .tuple []) :: (36, .tuple []) :: (35, .tuple []) :: (34, .tuple []) :: (33, .bool false) :: (32, .bool false) :: (31, .tuple []) :: (30, .tuple []) :: (29, .tuple []) :: (28, .tuple []) :: (27, .tuple []) :: (26, .bool false) :: (25, .bool false) :: (24, .tuple []) :: (23, .tuple []) :: (22, .tuple []) :: (21, .tuple []) :: (20, .bool false) :: E3)
   refine oR 37 (p' := .fin) (eE := E13) (H' := (mkH [])) (by kernel_rfl) ?_
   exact oT (r := false) (xs := [.bool false]) (v := .bool false) (by kernel_rfl) (by kernel_rfl) (by kernel_rfl) (.pures (by kernel_rfl)) (by kernel_rfl)
 ·let E14 : Env := ((0, .bool false) :: (54, .bool false) :: (53, .tuple []) :: (52, .tuple []) :: (51, .tuple []) :: (50, .tuple []) :: (49, .tuple []) :: (48, .bool false) :: (47, .bool false) :: (46, .tuple []) :: (45, .tuple []) :: (44, .tuple []) :: (43, .tuple []) :: (42, .tuple []) :: (41, .tuple []) :: (40, .tuple []) :: (39, .bool false) :: (38, .bool false) :: (37, .tuple []) :: (36, .tuple []) :: (35, .tuple []) :: (34, .tuple []) :: (33, .bool false) :: (32, .bool false) :: (31, .tuple []) :: (30, .tuple []) :: (29, .tuple []) :: (28, .tuple []) :: (27, .tuple []) :: (26, .bool false) :: (25, .bool false) :: (24, .tuple []) :: (23, .tuple []) :: (22, .tuple []) :: (21, .tuple []) :: (20, .bool false) :: (19, .bool false) :: (18, .tuple []) :: (17, .tuple []) :: (16, .tuple []) :: (15, .bool false) :: E2)
  refine oR 42 (p' := .fin) (eE := E14) (H' := (mkH [])) (by kernel_rfl) ?_
  exact oT (r := false) (xs := [.bool false]) (v := .bool false) (by kernel_rfl) (by kernel_rfl) (by kernel_rfl) (.pures (by kernel_rfl)) (by kernel_rfl)
end
end Go.Proofs.Ytbmijiibfaacmaa.Am
set_option maxRecDepth 100000
set_option linter.unusedVariables false
namespace Go.Proofs.Ytbmijiibfaacmaa.Am
noncomputable section
open Go
def X31 : Fx Bool := ⟨Try.prog, cx, Try.f31, fun r => .bool r, 0, fun _ => H0, cxTi, cxOrd⟩
def g31p0 : Pt := nav [0] (bodyAt Try.f31)
def g31p1 : Pt := nav [0, 0, 0, 0] g31p0
def g31p2 : Pt := nav [0, 0] g31p1
def g31p4 : Pt := nav [2, 0, 0, 0] g31p2
def g31p6 : Pt := nav [0, 0, 0, 0] g31p4
def g31p7 : Pt := nav [0, 0, 0] g31p6
def g31p8 : Pt := nav [0, 0] g31p7
def g31p9 : Pt := nav [1, 0, 0, 0, 0] g31p8
def g31_l1 (k : Nat)  (a0 : (List S36)) (a1 : (List S36)) (n : Nat) : Int → Option Bool :=
 Nat.rec (motive := fun _ => Int → Option Bool) (fun _ => none) (fun _ ih => fun (y1_0 : Int) => if (decide (y1_0 < (a0.length : Int))) then ((nthL a0 y1_0).bind fun x0_2 => (nthL a1 y1_0).bind fun x0_6 => if (!((decide (x0_2.f0 = x0_6.f0)) && ((decide (x0_2.f1 = x0_6.f1)) && ((x0_2.f2 == x0_6.f2) && ((x0_2.f3 == x0_6.f3) && true))))) then (some false) else (ih (fW .i64 (y1_0 + 1)))) else (some true)) n
theorem g31_l1_s (k : Nat)  (a0 : (List S36)) (a1 : (List S36)) (n : Nat) (y1_0 : Int) : g31_l1 k a0 a1 (n + 1) y1_0 = (if (decide (y1_0 < (a0.length : Int))) then ((nthL a0 y1_0).bind fun x0_2 => (nthL a1 y1_0).bind fun x0_6 => if (!((decide (x0_2.f0 = x0_6.f0)) && ((decide (x0_2.f1 = x0_6.f1)) && ((x0_2.f2 == x0_6.f2) && ((x0_2.f3 == x0_6.f3) && true))))) then (some false) else ((g31_l1 k a0 a1 n) (fW .i64 (y1_0 + 1)))) else (some true)) := rfl
theorem g31_l1_ok (k : Nat)  (a0 : (List S36)) (a1 : (List S36))  : ∀ (n : Nat) (y1_0 : Int), Ok X31 g31p6 [(0, .vec (a0).length 4 ((a0).flatMap e37)), (1, .vec (a1).length 4 ((a1).flatMap e37)), (5, .int .i64 y1_0)] (mkH []) (g31_l1 k a0 a1 n y1_0)
 | 0, _ => ok_none
 | n + 1, y1_0 => by
  have ih := g31_l1_ok k a0 a1 n
  rw [g31_l1_s]
  refine ok_ent (p' := nav [0] g31p6) (by kernel_rfl) ?_
  let E2 : Env := [(14, .bool (decide (y1_0 < (a0.length : Int)))), (13, .int .i64 (a0.length : Int)), (12, .vec (a0).length 4 ((a0).flatMap e37)), (11, .int .i64 y1_0), (0, .vec (a0).length 4 ((a0).flatMap e37)), (1, .vec (a1).length 4 ((a1).flatMap e37)), (5, .int .i64 y1_0)]
  refine oR 8 (p' := g31p8) (eE := E2) (H' := (mkH [])) (by kernel_rfl) ?_
  refine oS 14 (b := decide (y1_0 < (a0.length : Int))) (by kernel_rfl) (fun hb => ?_) (fun hb => ?_)
  ·refine oR 5 (p' := g31p9) (eE := ((14, .bool true) :: E2)) (H' := (mkH [])) (by kernel_rfl) ?_
   refine ok_bind (fun x0_2 hx0_2 => ?_)
   refine ok_bind (fun x0_6 hx0_6 => ?_)
   let E3 : Env := [(18, .int .i64 y1_0), (17, .vec (a0).length 4 ((a0).flatMap e37)), (14, .bool true), (14, .bool (decide (y1_0 < (a0.length : Int)))), (13, .int .i64 (a0.length : Int)), (12, .vec (a0).length 4 ((a0).flatMap e37)), (11, .int .i64 y1_0), (0, .vec (a0).length 4 ((a0).flatMap e37)), (1, .vec (a1).length 4 ((a1).flatMap e37)), (5, .int .i64 y1_0)]
   let E4 : Env := ((23, .vptr [.int .i64 x0_6.f0, .int .i64 x0_6.f1, .bool x0_6.f2, .bool x0_6.f3]) :: (22, .int .i64 y1_0) :: (21, .vec (a1).length 4 ((a1).flatMap e37)) :: (20, .agg [.int .i64 x0_2.f0, .int .i64 x0_2.f1, .bool x0_2.f2, .bool x0_2.f3]) :: (19, .vptr [.int .i64 x0_2.f0, .int .i64 x0_2.f1, .bool x0_2.f2, .bool x0_2.f3]) :: E3)
   refine ok_draw (p' := nav [0] g31p9) (eE := ((25, .bool (!((decide (x0_2.f0 = x0_6.f0)) && ((decide (x0_2.f1 = x0_6.f1)) && ((x0_2.f2 == x0_6.f2) && ((x0_2.f3 == x0_6.f3) && true)))))) :: (24, .agg [.int .i64 x0_6.f0, .int .i64 x0_6.f1, .bool x0_6.f2, .bool x0_6.f3]) :: E4)) (H' := (mkH [])) (hs := []) [(0, 0, 0), (0, 0, 0), (3, 0, 0), (7, 0, 0), (0, 0, 0), (0, 0, 0), (48, 0, 0), (112, 0, 0), (255, 0, 0)] (by kernel_rfl) (by kernel_rfl) (by kernel_rfl) (opsD_run 2 (l' := (opsAt g31p9).toList.drop 2) (eE := E3) (H' := (mkH [])) (hs := []) (by kernel_rfl) (opsD_chk (l' := (opsAt g31p9).toList.drop 3) (eE := ((19, .vptr [.int .i64 x0_2.f0, .int .i64 x0_2.f1, .bool x0_2.f2, .bool x0_2.f3]) :: E3)) (hs := []) (x := x0_2) (fun (x0_2 : S36) => (.vptr [.int .i64 x0_2.f0, .int .i64 x0_2.f1, .bool x0_2.f2, .bool x0_2.f3], (mkH []))) (vidxH (sz := 4) e37_len (by kernel_rfl)) hx0_2 (by kernel_rfl) (opsD_run 3 (l' := (opsAt g31p9).toList.drop 6) (eE := ((22, .int .i64 y1_0) :: (21, .vec (a1).length 4 ((a1).flatMap e37)) :: (20, .agg [.int .i64 x0_2.f0, .int .i64 x0_2.f1, .bool x0_2.f2, .bool x0_2.f3]) :: (19, .vptr [.int .i64 x0_2.f0, .int .i64 x0_2.f1, .bool x0_2.f2, .bool x0_2.f3]) :: E3)) (H' := (mkH [])) (hs := []) (by kernel_rfl) (opsD_chk (l' := (opsAt g31p9).toList.drop 7) (eE := E4) (hs := []) (x := x0_6) (fun (x0_6 : S36) => (.vptr [.int .i64 x0_6.f0, .int .i64 x0_6.f1, .bool x0_6.f2, .bool x0_6.f3], (mkH []))) (vidxH (sz := 4) e37_len (by kernel_rfl)) hx0_6 (by kernel_rfl) (opsD_run 2 (l' := (opsAt g31p9).toList.drop 9) (eE := ((25, .bool (!((decide (x0_2.f0 = x0_6.f0)) && ((decide (x0_2.f1 = x0_6.f1)) && ((x0_2.f2 == x0_6.f2) && ((x0_2.f3 == x0_6.f3) && true)))))) :: (24, .agg [.int .i64 x0_6.f0, .int .i64 x0_6.f1, .bool x0_6.f2, .bool x0_6.f3]) :: E4)) (H' := (mkH [])) (hs := []) (by kernel_rfl) (.nil)))))) (by kernel_rfl) (by kernel_rfl) (by kernel_rfl) ?_
   refine oS 25 (b := !((decide (x0_2.f0 = x0_6.f0)) && ((decide (x0_2.f1 = x0_6.f1)) && ((x0_2.f2 == x0_6.f2) && ((x0_2.f3 == x0_6.f3) && true))))) (by kernel_rfl) (fun hb => ?_) (fun hb => ?_)
   ·refine oR 6 (p' := .fin) (eE := ((4, .bool false) :: (25, .bool true) :: (25, .bool (!((decide (x0_2.f0 = x0_6.f0)) && ((decide (x0_2.f1 = x0_6.f1)) && ((x0_2.f2 == x0_6.f2) && ((x0_2.f3 == x0_6.f3) && true)))))) :: (24, .agg [.int .i64 x0_6.f0, .int .i64 x0_6.f1, .bool x0_6.f2, .bool x0_6.f3]) :: E4)) (H' := (mkH [])) (by kernel_rfl) ?_
    exact oT (r := false) (xs := [.bool false]) (v := .bool false) (by kernel_rfl) (by kernel_rfl) (by kernel_rfl) (.pures (by kernel_rfl)) (by kernel_rfl)
   ·let E5 : Env := ((5, .int .i64 (fW .i64 (y1_0 + 1))) :: (16, .int .i64 (fW .i64 (y1_0 + 1))) :: (15, .int .i64 y1_0) :: (25, .bool false) :: (25, .bool (!((decide (x0_2.f0 = x0_6.f0)) && ((decide (x0_2.f1 = x0_6.f1)) && ((x0_2.f2 == x0_6.f2) && ((x0_2.f3 == x0_6.f3) && true)))))) :: (24, .agg [.int .i64 x0_6.f0, .int .i64 x0_6.f1, .bool x0_6.f2, .bool x0_6.f3]) :: E4)
    refine oR 7 (p' := g31p6) (eE := E5) (H' := (mkH [])) (by kernel_rfl) ?_
    refine oK [0, 1, 5] (eE := [(0, .vec (a0).length 4 ((a0).flatMap e37)), (1, .vec (a1).length 4 ((a1).flatMap e37)), (5, .int .i64 (fW .i64 (y1_0 + 1)))]) (by kernel_rfl) ?_
    exact ih (fW .i64 (y1_0 + 1))
  ·refine oR 7 (p' := .fin) (eE := ((4, .bool true) :: (14, .bool false) :: E2)) (H' := (mkH [])) (by kernel_rfl) ?_
   exact oT (r := true) (xs := [.bool true]) (v := .bool true) (by kernel_rfl) (by kernel_rfl) (by kernel_rfl) (.pures (by kernel_rfl)) (by kernel_rfl)
def g31 (k : Nat) (a0 : (List S36)) (a1 : (List S36)) : Option Bool :=
 if (!decide ((a0.length : Int) = (a1.length : Int))) then (some false) else (g31_l1 k a0 a1 k 0)
theorem g31_ok (k : Nat) (a0 : (List S36)) (a1 : (List S36)) (r : Bool) (h : g31 k a0 a1 = some r) : PureOk Try.prog 31 [.vec (a0).length 4 ((a0).flatMap e37), .vec (a1).length 4 ((a1).flatMap e37)] (.bool r) := by
 refine pure_of X31 (fun _ => rfl) Try.func31 (by decide +kernel) (by kernel_rfl) (t := g31 k a0 a1) ?_ h
 unfold g31
 refine oE (eE := [(0, .vec (a0).length 4 ((a0).flatMap e37)), (1, .vec (a1).length 4 ((a1).flatMap e37))]) (by kernel_rfl) ?_
 let E1 : Env := [(10, .bool (!decide ((a0.length : Int) = (a1.length : Int)))), (9, .int .i64 (a1.length : Int)), (8, .vec (a1).length 4 ((a1).flatMap e37)), (7, .int .i64 (a0.length : Int)), (6, .vec (a0).length 4 ((a0).flatMap e37)), (4, .bool false), (0, .vec (a0).length 4 ((a0).flatMap e37)), (1, .vec (a1).length 4 ((a1).flatMap e37))]
 refine oR 13 (p' := g31p2) (eE := E1) (H' := (mkH [])) (by kernel_rfl) ?_
 refine oS 10 (b := !decide ((a0.length : Int) = (a1.length : Int))) (by kernel_rfl) (fun hb => ?_) (fun hb => ?_)
 ·refine oR 6 (p' := .fin) (eE := ((4, .bool false) :: (10, .bool true) :: E1)) (H' := (mkH [])) (by kernel_rfl) ?_
  exact oT (r := false) (xs := [.bool false]) (v := .bool false) (by kernel_rfl) (by kernel_rfl) (by kernel_rfl) (.pures (by kernel_rfl)) (by kernel_rfl)
 ·refine oR 9 (p' := g31p6) (eE := ((5, .int .i64 0) :: (10, .bool false) :: E1)) (H' := (mkH [])) (by kernel_rfl) ?_
  refine oK [0, 1, 5] (eE := [(0, .vec (a0).length 4 ((a0).flatMap e37)), (1, .vec (a1).length 4 ((a1).flatMap e37)), (5, .int .i64 0)]) (by kernel_rfl) ?_
  exact (g31_l1_ok k a0 a1 k) 0
end
end Go.Proofs.Ytbmijiibfaacmaa.Am
set_option maxRecDepth 100000
set_option linter.unusedVariables false
namespace Go.Proofs.Ytbmijiibfaacmaa.Am
noncomputable section
open Go
def X8 : Fx Bool := ⟨Try.prog, cx, Try.f8, fun r => .bool r, 0, fun _ => H0, cxTi, cxOrd⟩
def g8p0 : Pt := nav [0] (bodyAt Try.f8)
def g8p1 : Pt := nav [0, 0, 0, 0] g8p0
def g8p2 : Pt := nav [0, 0] g8p1
def g8p3 : Pt := nav [1, 0] g8p2
def g8p4 : Pt := nav [2, 0, 0] g8p2
def g8p6 : Pt := nav [0, 0, 0] g8p4
def g8p7 : Pt := nav [0, 0, 0] g8p6
def g8p8 : Pt := nav [0, 0, 0] g8p7
def g8p9 : Pt := nav [0, 0, 0, 0] g8p8
def g8p10 : Pt := nav [0, 0] g8p9
def g8p11 : Pt := nav [1, 0] g8p10
def g8p12 : Pt := nav [2, 0, 0, 0] g8p10
def g8p13 : Pt := nav [0, 0] g8p12
def g8p15 : Pt := nav [2, 0, 0] g8p13
def g8p16 : Pt := nav [0, 0, 0, 0] g8p15
def g8p17 : Pt := nav [0, 0] g8p16
def g8p18 : Pt := nav [1, 0] g8p17
def g8p19 : Pt := nav [2, 0, 0, 0] g8p17
def g8p20 : Pt := nav [0, 0] g8p19
def g8p22 : Pt := nav [2, 0, 0, 0] g8p20
def g8p23 : Pt := nav [0, 0, 0, 0] g8p22
def g8p24 : Pt := nav [0, 0, 0] g8p23
def g8p25 : Pt := nav [0, 0] g8p24
def g8p26 : Pt := nav [1, 0, 0, 0, 0] g8p25
def g8p27 : Pt := nav [2, 0, 0] g8p25
def g8p28 : Pt := nav [0, 0, 0] g8p26
def g8p29 : Pt := nav [0] g8p28
def g8_l17 (k : Nat)  (x2_1 : ((List S46) × Int)) (x6_2 : (List S36)) (x6_5 : (List S36)) (x6_10 : (List S36)) (n : Nat) : Int → Option Bool :=
 Nat.rec (motive := fun _ => Int → Option Bool) (fun _ => none) (fun _ ih => fun (y17_0 : Int) => if (decide (y17_0 < (x6_5.length : Int))) then ((nthL x6_10 (fW .i64 ((x6_2.length : Int) + y17_0))).bind fun x10_5 => jn (fun (z18 : Bool × Int) => if z18.1 then (some false) else (ih (fW .i64 (z18.2 + 1)))) (fun j18 => (nthL x6_5 y17_0).bind fun x11_4 => if (!decide (x10_5.f0 = fW .i64 (x11_4.f0 + (x2_1.1.length : Int)))) then (j18 (true, y17_0)) else ((nthL x6_5 y17_0).bind fun x11_16 => if (!decide (x10_5.f1 = fW .i64 (x11_16.f1 + (x2_1.1.length : Int)))) then (j18 (true, y17_0)) else ((nthL x6_5 y17_0).bind fun x11_29 => if (!(x10_5.f2 == x11_29.f2)) then (j18 (true, y17_0)) else (if (decide (0 < y17_0)) then ((nthL x6_5 y17_0).bind fun x11_42 => j18 (!(x10_5.f3 == x11_42.f3), y17_0)) else (j18 (false, y17_0))))))) else ((g27 k).bind fun x12_0 => some x12_0)) n
theorem g8_l17_s (k : Nat)  (x2_1 : ((List S46) × Int)) (x6_2 : (List S36)) (x6_5 : (List S36)) (x6_10 : (List S36)) (n : Nat) (y17_0 : Int) : g8_l17 k x2_1 x6_2 x6_5 x6_10 (n + 1) y17_0 = (if (decide (y17_0 < (x6_5.length : Int))) then ((nthL x6_10 (fW .i64 ((x6_2.length : Int) + y17_0))).bind fun x10_5 => jn (fun (z18 : Bool × Int) => if z18.1 then (some false) else ((g8_l17 k x2_1 x6_2 x6_5 x6_10 n) (fW .i64 (z18.2 + 1)))) (fun j18 => (nthL x6_5 y17_0).bind fun x11_4 => if (!decide (x10_5.f0 = fW .i64 (x11_4.f0 + (x2_1.1.length : Int)))) then (j18 (true, y17_0)) else ((nthL x6_5 y17_0).bind fun x11_16 => if (!decide (x10_5.f1 = fW .i64 (x11_16.f1 + (x2_1.1.length : Int)))) then (j18 (true, y17_0)) else ((nthL x6_5 y17_0).bind fun x11_29 => if (!(x10_5.f2 == x11_29.f2)) then (j18 (true, y17_0)) else (if (decide (0 < y17_0)) then ((nthL x6_5 y17_0).bind fun x11_42 => j18 (!(x10_5.f3 == x11_42.f3), y17_0)) else (j18 (false, y17_0))))))) else ((g27 k).bind fun x12_0 => some x12_0)) := rfl
theorem g8_l17_ok (k : Nat)  (x2_1 : ((List S46) × Int)) (x6_2 : (List S36)) (x6_5 : (List S36)) (x6_10 : (List S36))  : ∀ (n : Nat) (y17_0 : Int), Ok X8 g8p23 [(5, .vec (x2_1.1).length 3 ((x2_1.1).flatMap e47)), (11, .vec (x6_2).length 4 ((x6_2).flatMap e37)), (12, .vec (x6_5).length 4 ((x6_5).flatMap e37)), (13, .vec (x6_10).length 4 ((x6_10).flatMap e37)), (14, .int .i64 y17_0)] (mkH []) (g8_l17 k x2_1 x6_2 x6_5 x6_10 n y17_0)
 | 0, _ => ok_none
 | n + 1, y17_0 => by
  have ih := g8_l17_ok k x2_1 x6_2 x6_5 x6_10 n
  rw [g8_l17_s]
  refine ok_ent (p' := nav [0] g8p23) (by kernel_rfl) ?_
  let E18 : Env := [(98, .bool (decide (y17_0 < (x6_5.length : Int)))), (97, .int .i64 (x6_5.length : Int)), (96, .vec (x6_5).length 4 ((x6_5).flatMap e37)), (95, .int .i64 y17_0), (5, .vec (x2_1.1).length 3 ((x2_1.1).flatMap e47)), (11, .vec (x6_2).length 4 ((x6_2).flatMap e37)), (12, .vec (x6_5).length 4 ((x6_5).flatMap e37)), (13, .vec (x6_10).length 4 ((x6_10).flatMap e37)), (14, .int .i64 y17_0)]
  refine oR 8 (p' := g8p25) (eE := E18) (H' := (mkH [])) (by kernel_rfl) ?_
  refine oS 98 (b := decide (y17_0 < (x6_5.length : Int))) (by kernel_rfl) (fun hb => ?_) (fun hb => ?_)
  ·let E19 : Env := ((105, .int .i64 (fW .i64 ((x6_2.length : Int) + y17_0))) :: (104, .int .i64 y17_0) :: (103, .int .i64 (x6_2.length : Int)) :: (102, .vec (x6_2).length 4 ((x6_2).flatMap e37)) :: (101, .vec (x6_10).length 4 ((x6_10).flatMap e37)) :: (98, .bool true) :: E18)
   refine oR 11 (p' := (atN 5 (ctl1 g8p26))) (eE := E19) (H' := (mkH [])) (by kernel_rfl) ?_
   refine oH (fun (x10_5 : S36) => (.vptr [.int .i64 x10_5.f0, .int .i64 x10_5.f1, .bool x10_5.f2, .bool x10_5.f3], (mkH []))) (atN 6 (ctl1 g8p26)) (fun x10_5 => ((106, .vptr [.int .i64 x10_5.f0, .int .i64 x10_5.f1, .bool x10_5.f2, .bool x10_5.f3]) :: E19)) (vidxH (sz := 4) e37_len (by kernel_rfl)) (fun _ => by kernel_rfl) (fun x10_5 hx10_5 => ?_)
   refine oR 5 (p' := g8p28) (eE := ((15, .ptr 0 4 0) :: (107, .agg [.int .i64 x10_5.f0, .int .i64 x10_5.f1, .bool x10_5.f2, .bool x10_5.f3]) :: (106, .vptr [.int .i64 x10_5.f0, .int .i64 x10_5.f1, .bool x10_5.f2, .bool x10_5.f3]) :: E19)) (H' := (mkH [⟨[.int .i64 x10_5.f0, .int .i64 x10_5.f1, .bool x10_5.f2, .bool x10_5.f3], 4, false⟩])) (by kernel_rfl) ?_
   refine oK [5, 11, 12, 13, 14, 15] (eE := [(5, .vec (x2_1.1).length 3 ((x2_1.1).flatMap e47)), (11, .vec (x6_2).length 4 ((x6_2).flatMap e37)), (12, .vec (x6_5).length 4 ((x6_5).flatMap e37)), (13, .vec (x6_10).length 4 ((x6_10).flatMap e37)), (14, .int .i64 y17_0), (15, .ptr 0 4 0)]) (by kernel_rfl) ?_
   refine oJ (f := fun (z18 : Bool × Int) => if z18.1 then (some false) else ((g8_l17 k x2_1 x6_2 x6_5 x6_10 n) (fW .i64 (z18.2 + 1)))) g8p29 (fun (z18 : Bool × Int) => [(5, .vec (x2_1.1).length 3 ((x2_1.1).flatMap e47)), (11, .vec (x6_2).length 4 ((x6_2).flatMap e37)), (12, .vec (x6_5).length 4 ((x6_5).flatMap e37)), (13, .vec (x6_10).length 4 ((x6_10).flatMap e37)), (14, .int .i64 z18.2), (155, .bool z18.1)]) (fun (z18 : Bool × Int) => (mkH [])) (fun z18 => ?_) (fun j18 hj18 => ?_)
   ·refine oS 155 (b := z18.1) (by kernel_rfl) (fun hb => ?_) (fun hb => ?_)
    ·let E21 : Env := [(4, .bool false), (155, .bool true), (5, .vec (x2_1.1).length 3 ((x2_1.1).flatMap e47)), (11, .vec (x6_2).length 4 ((x6_2).flatMap e37)), (12, .vec (x6_5).length 4 ((x6_5).flatMap e37)), (13, .vec (x6_10).length 4 ((x6_10).flatMap e37)), (14, .int .i64 z18.2), (155, .bool z18.1)]
     refine oR 6 (p' := .fin) (eE := E21) (H' := (mkH [])) (by kernel_rfl) ?_
     exact oT (r := false) (xs := [.bool false]) (v := .bool false) (by kernel_rfl) (by kernel_rfl) (by kernel_rfl) (.pures (by kernel_rfl)) (by kernel_rfl)
    ·let E22 : Env := [(14, .int .i64 (fW .i64 (z18.2 + 1))), (100, .int .i64 (fW .i64 (z18.2 + 1))), (99, .int .i64 z18.2), (155, .bool false), (5, .vec (x2_1.1).length 3 ((x2_1.1).flatMap e47)), (11, .vec (x6_2).length 4 ((x6_2).flatMap e37)), (12, .vec (x6_5).length 4 ((x6_5).flatMap e37)), (13, .vec (x6_10).length 4 ((x6_10).flatMap e37)), (14, .int .i64 z18.2), (155, .bool z18.1)]
     refine oR 7 (p' := g8p23) (eE := E22) (H' := (mkH [])) (by kernel_rfl) ?_
     refine oK [5, 11, 12, 13, 14] (eE := [(5, .vec (x2_1.1).length 3 ((x2_1.1).flatMap e47)), (11, .vec (x6_2).length 4 ((x6_2).flatMap e37)), (12, .vec (x6_5).length 4 ((x6_5).flatMap e37)), (13, .vec (x6_10).length 4 ((x6_10).flatMap e37)), (14, .int .i64 (fW .i64 (z18.2 + 1)))]) (by kernel_rfl) ?_
     exact ih (fW .i64 (z18.2 + 1))
   ·refine ok_bind (fun x11_4 hx11_4 => ?_)
    refine ok_if (fun hb18 => ?_) (fun hb18 => ?_)
    ·let E23 : Env := [(111, .int .i64 y17_0), (110, .vec (x6_5).length 4 ((x6_5).flatMap e37)), (109, .int .i64 x10_5.f0), (108, .ptr 0 4 0), (5, .vec (x2_1.1).length 3 ((x2_1.1).flatMap e47)), (11, .vec (x6_2).length 4 ((x6_2).flatMap e37)), (12, .vec (x6_5).length 4 ((x6_5).flatMap e37)), (13, .vec (x6_10).length 4 ((x6_10).flatMap e37)), (14, .int .i64 y17_0), (15, .ptr 0 4 0)]
     let E24 : Env := ((119, .bool (!decide (x10_5.f0 = fW .i64 (x11_4.f0 + (x2_1.1.length : Int))))) :: (118, .bool (!decide (x10_5.f0 = fW .i64 (x11_4.f0 + (x2_1.1.length : Int))))) :: (117, .int .i64 (fW .i64 (x11_4.f0 + (x2_1.1.length : Int)))) :: (116, .int .i64 (x2_1.1.length : Int)) :: (115, .vec (x2_1.1).length 3 ((x2_1.1).flatMap e47)) :: (114, .int .i64 x11_4.f0) :: (113, .vptr [.int .i64 x11_4.f0, .int .i64 x11_4.f1, .bool x11_4.f2, .bool x11_4.f3]) :: (112, .vptr [.int .i64 x11_4.f0, .int .i64 x11_4.f1, .bool x11_4.f2, .bool x11_4.f3]) :: E23)
     let E25 : Env := [(155, .bool true), (154, .tuple []), (153, .tuple []), (152, .tuple []), (151, .tuple []), (150, .tuple []), (149, .tuple []), (148, .tuple []), (147, .tuple []), (146, .tuple []), (145, .tuple []), (144, .tuple []), (143, .tuple []), (142, .bool true), (141, .bool true), (140, .tuple []), (139, .tuple []), (138, .tuple []), (137, .tuple []), (136, .tuple []), (135, .tuple []), (134, .tuple []), (133, .tuple []), (132, .bool true), (131, .bool true), (130, .tuple []), (129, .tuple []), (128, .tuple []), (127, .tuple []), (126, .tuple []), (125, .tuple []), (124, .tuple []), (123, .tuple []), (122, .tuple []), (121, .tuple []), (120, .tuple []), (119, .bool true), (118, .bool true), (117, .int .i64 (fW .i64 (x11_4.f0 + (x2_1.1.length : Int)))), (116, .int .i64 (x2_1.1.length : Int)), (115, .vec (x2_1.1).length 3 ((x2_1.1).flatMap e47)), (114, .int .i64 x11_4.f0), (113, .vptr [.int .i64 x11_4.f0, .int .i64 x11_4.f1, .bool x11_4.f2, .bool x11_4.f3]), (112, .vptr [.int .i64 x11_4.f0, .int .i64 x11_4.f1, .bool x11_4.f2, .bool x11_4.f3]), (111, .int .i64 y17_0), (110, .vec (x6_5).length 4 ((x6_5).flatMap e37)), (109, .int .i64 x10_5.f0), (108, .ptr 0 4 0), (5, .vec (x2_1.1).length 3 ((x2_1.1).flatMap e47)), (11, .vec (x6_2).length 4 ((x6_2).flatMap e37)), (12, .vec (x6_5).length 4 ((x6_5).flatMap e37)), (13, .vec (x6_10).length 4 ((x6_10).flatMap e37)), (14, .int .i64 y17_0), (15, .ptr 0 4 0)]
     refine ok_draw (p' := nav [0] g8p28) (eE := E25) (H' := (mkH [⟨[.int .i64 x10_5.f0, .int .i64 x10_5.f1, .bool x10_5.f2, .bool x10_5.f3], 4, false⟩])) (hs := []) [(0, 0, 0), (1, 0, 0), (0, 0, 0), (0, 0, 0), (12, 0, 0), (28, 0, 0), (60, 0, 0), (0, 0, 0), (128, 0, 0), (508, 0, 0), (1023, 0, 0), (2047, 0, 0), (4095, 0, 0), (8191, 0, 0), (4095, 0, 0), (4095, 0, 0), (53247, 0, 0), (118783, 0, 0), (249855, 0, 0), (4095, 0, 0), (528383, 0, 0), (2084863, 0, 0), (4194303, 0, 0), (8388607, 0, 0), (16777215, 0, 0), (33554431, 0, 0), (67108863, 0, 0), (33554431, 0, 0), (33554431, 0, 0), (436207615, 0, 0), (973078527, 0, 0), (2046820351, 0, 0), (4294967295, 0, 0), (8589934591, 0, 0), (17179869183, 0, 0), (34359738367, 0, 0), (68719476735, 0, 0), (137438953471, 0, 0), (274877906943, 0, 0), (549755813887, 0, 0), (274877906943, 0, 0), (274877906943, 0, 0), (3573412790271, 0, 0), (7971459301375, 0, 0), (16767552323583, 0, 0), (35184372088831, 0, 0), (70368744177663, 0, 0), (140737488355327, 0, 0)] (by kernel_rfl) (by kernel_rfl) (by kernel_rfl) (opsD_run 4 (l' := (opsAt g8p28).toList.drop 4) (eE := E23) (H' := (mkH [⟨[.int .i64 x10_5.f0, .int .i64 x10_5.f1, .bool x10_5.f2, .bool x10_5.f3], 4, false⟩])) (hs := []) (by kernel_rfl) (opsD_chk (l' := (opsAt g8p28).toList.drop 5) (eE := ((112, .vptr [.int .i64 x11_4.f0, .int .i64 x11_4.f1, .bool x11_4.f2, .bool x11_4.f3]) :: E23)) (hs := []) (x := x11_4) (fun (x11_4 : S36) => (.vptr [.int .i64 x11_4.f0, .int .i64 x11_4.f1, .bool x11_4.f2, .bool x11_4.f3], (mkH [⟨[.int .i64 x10_5.f0, .int .i64 x10_5.f1, .bool x10_5.f2, .bool x10_5.f3], 4, false⟩]))) (vidxH (sz := 4) e37_len (by kernel_rfl)) hx11_4 (by kernel_rfl) (opsD_run 7 (l' := (opsAt g8p28).toList.drop 12) (eE := E24) (H' := (mkH [⟨[.int .i64 x10_5.f0, .int .i64 x10_5.f1, .bool x10_5.f2, .bool x10_5.f3], 4, false⟩])) (hs := []) (by kernel_rfl) (opsD_env (eE := [(119, .bool true), (118, .bool true), (117, .int .i64 (fW .i64 (x11_4.f0 + (x2_1.1.length : Int)))), (116, .int .i64 (x2_1.1.length : Int)), (115, .vec (x2_1.1).length 3 ((x2_1.1).flatMap e47)), (114, .int .i64 x11_4.f0), (113, .vptr [.int .i64 x11_4.f0, .int .i64 x11_4.f1, .bool x11_4.f2, .bool x11_4.f3]), (112, .vptr [.int .i64 x11_4.f0, .int .i64 x11_4.f1, .bool x11_4.f2, .bool x11_4.f3]), (111, .int .i64 y17_0), (110, .vec (x6_5).length 4 ((x6_5).flatMap e37)), (109, .int .i64 x10_5.f0), (108, .ptr 0 4 0), (5, .vec (x2_1.1).length 3 ((x2_1.1).flatMap e47)), (11, .vec (x6_2).length 4 ((x6_2).flatMap e37)), (12, .vec (x6_5).length 4 ((x6_5).flatMap e37)), (13, .vec (x6_10).length 4 ((x6_10).flatMap e37)), (14, .int .i64 y17_0), (15, .ptr 0 4 0)]) (congrArg (fun z : Bool => ([(119, .bool z), (118, .bool z), (117, .int .i64 (fW .i64 (x11_4.f0 + (x2_1.1.length : Int)))), (116, .int .i64 (x2_1.1.length : Int)), (115, .vec (x2_1.1).length 3 ((x2_1.1).flatMap e47)), (114, .int .i64 x11_4.f0), (113, .vptr [.int .i64 x11_4.f0, .int .i64 x11_4.f1, .bool x11_4.f2, .bool x11_4.f3]), (112, .vptr [.int .i64 x11_4.f0, .int .i64 x11_4.f1, .bool x11_4.f2, .bool x11_4.f3]), (111, .int .i64 y17_0), (110, .vec (x6_5).length 4 ((x6_5).flatMap e37)), (109, .int .i64 x10_5.f0), (108, .ptr 0 4 0), (5, .vec (x2_1.1).length 3 ((x2_1.1).flatMap e47)), (11, .vec (x6_2).length 4 ((x6_2).flatMap e37)), (12, .vec (x6_5).length 4 ((x6_5).flatMap e37)), (13, .vec (x6_10).length 4 ((x6_10).flatMap e37)), (14, .int .i64 y17_0), (15, .ptr 0 4 0)] : Env)) hb18) (opsD_run 36 (l' := (opsAt g8p28).toList.drop 48) (eE := E25) (H' := (mkH [⟨[.int .i64 x10_5.f0, .int .i64 x10_5.f1, .bool x10_5.f2, .bool x10_5.f3], 4, false⟩])) (hs := []) (by kernel_rfl) (.nil)))))) (by kernel_rfl) (by kernel_rfl) (by kernel_rfl) ?_
     refine oK [5, 11, 12, 13, 14, 155] (eE := [(5, .vec (x2_1.1).length 3 ((x2_1.1).flatMap e47)), (11, .vec (x6_2).length 4 ((x6_2).flatMap e37)), (12, .vec (x6_5).length 4 ((x6_5).flatMap e37)), (13, .vec (x6_10).length 4 ((x6_10).flatMap e37)), (14, .int .i64 y17_0), (155, .bool true)]) (by kernel_rfl) ?_
     refine ok_cut [] [⟨[.int .i64 x10_5.f0, .int .i64 x10_5.f1, .bool x10_5.f2, .bool x10_5.f3], 4, false⟩] (by kernel_rfl) rfl (by kernel_rfl) trivial ?_
     exact hj18 (true, y17_0)
    ·refine ok_bind (fun x11_16 hx11_16 => ?_)
     refine ok_if (fun hb19 => ?_) (fun hb19 => ?_)
     ·let E23 : Env := [(111, .int .i64 y17_0), (110, .vec (x6_5).length 4 ((x6_5).flatMap e37)), (109, .int .i64 x10_5.f0), (108, .ptr 0 4 0), (5, .vec (x2_1.1).length 3 ((x2_1.1).flatMap e47)), (11, .vec (x6_2).length 4 ((x6_2).flatMap e37)), (12, .vec (x6_5).length 4 ((x6_5).flatMap e37)), (13, .vec (x6_10).length 4 ((x6_10).flatMap e37)), (14, .int .i64 y17_0), (15, .ptr 0 4 0)]
      let E24 : Env := ((119, .bool (!decide (x10_5.f0 = fW .i64 (x11_4.f0 + (x2_1.1.length : Int))))) :: (118, .bool (!decide (x10_5.f0 = fW .i64 (x11_4.f0 + (x2_1.1.length : Int))))) :: (117, .int .i64 (fW .i64 (x11_4.f0 + (x2_1.1.length : Int)))) :: (116, .int .i64 (x2_1.1.length : Int)) :: (115, .vec (x2_1.1).length 3 ((x2_1.1).flatMap e47)) :: (114, .int .i64 x11_4.f0) :: (113, .vptr [.int .i64 x11_4.f0, .int .i64 x11_4.f1, .bool x11_4.f2, .bool x11_4.f3]) :: (112, .vptr [.int .i64 x11_4.f0, .int .i64 x11_4.f1, .bool x11_4.f2, .bool x11_4.f3]) :: E23)
      let E26 : Env := [(123, .int .i64 y17_0), (122, .vec (x6_5).length 4 ((x6_5).flatMap e37)), (121, .int .i64 x10_5.f1), (120, .ptr 0 4 1), (119, .bool false), (118, .bool false), (117, .int .i64 (fW .i64 (x11_4.f0 + (x2_1.1.length : Int)))), (116, .int .i64 (x2_1.1.length : Int)), (115, .vec (x2_1.1).length 3 ((x2_1.1).flatMap e47)), (114, .int .i64 x11_4.f0), (113, .vptr [.int .i64 x11_4.f0, .int .i64 x11_4.f1, .bool x11_4.f2, .bool x11_4.f3]), (112, .vptr [.int .i64 x11_4.f0, .int .i64 x11_4.f1, .bool x11_4.f2, .bool x11_4.f3]), (111, .int .i64 y17_0), (110, .vec (x6_5).length 4 ((x6_5).flatMap e37)), (109, .int .i64 x10_5.f0), (108, .ptr 0 4 0), (5, .vec (x2_1.1).length 3 ((x2_1.1).flatMap e47)), (11, .vec (x6_2).length 4 ((x6_2).flatMap e37)), (12, .vec (x6_5).length 4 ((x6_5).flatMap e37)), (13, .vec (x6_10).length 4 ((x6_10).flatMap e37)), (14, .int .i64 y17_0), (15, .ptr 0 4 0)]
      let E27 : Env := ((132, .bool (!decide (x10_5.f1 = fW .i64 (x11_16.f1 + (x2_1.1.length : Int))))) :: (131, .bool (!decide (x10_5.f1 = fW .i64 (x11_16.f1 + (x2_1.1.length : Int))))) :: (130, .bool (!decide (x10_5.f1 = fW .i64 (x11_16.f1 + (x2_1.1.length : Int))))) :: (129, .int .i64 (fW .i64 (x11_16.f1 + (x2_1.1.length : Int)))) :: (128, .int .i64 (x2_1.1.length : Int)) :: (127, .vec (x2_1.1).length 3 ((x2_1.1).flatMap e47)) :: (126, .int .i64 x11_16.f1) :: (125, .vptr [.int .i64 x11_16.f1, .bool x11_16.f2, .bool x11_16.f3]) :: (124, .vptr [.int .i64 x11_16.f0, .int .i64 x11_16.f1, .bool x11_16.f2, .bool x11_16.f3]) :: E26)
      let E28 : Env := [(155, .bool true), (154, .tuple []), (153, .tuple []), (152, .tuple []), (151, .tuple []), (150, .tuple []), (149, .tuple []), (148, .tuple []), (147, .tuple []), (146, .tuple []), (145, .tuple []), (144, .tuple []), (143, .tuple []), (142, .bool true), (141, .bool true), (140, .tuple []), (139, .tuple []), (138, .tuple []), (137, .tuple []), (136, .tuple []), (135, .tuple []), (134, .tuple []), (133, .tuple []), (132, .bool true), (131, .bool true), (130, .bool true), (129, .int .i64 (fW .i64 (x11_16.f1 + (x2_1.1.length : Int)))), (128, .int .i64 (x2_1.1.length : Int)), (127, .vec (x2_1.1).length 3 ((x2_1.1).flatMap e47)), (126, .int .i64 x11_16.f1), (125, .vptr [.int .i64 x11_16.f1, .bool x11_16.f2, .bool x11_16.f3]), (124, .vptr [.int .i64 x11_16.f0, .int .i64 x11_16.f1, .bool x11_16.f2, .bool x11_16.f3]), (123, .int .i64 y17_0), (122, .vec (x6_5).length 4 ((x6_5).flatMap e37)), (121, .int .i64 x10_5.f1), (120, .ptr 0 4 1), (119, .bool false), (118, .bool false), (117, .int .i64 (fW .i64 (x11_4.f0 + (x2_1.1.length : Int)))), (116, .int .i64 (x2_1.1.length : Int)), (115, .vec (x2_1.1).length 3 ((x2_1.1).flatMap e47)), (114, .int .i64 x11_4.f0), (113, .vptr [.int .i64 x11_4.f0, .int .i64 x11_4.f1, .bool x11_4.f2, .bool x11_4.f3]), (112, .vptr [.int .i64 x11_4.f0, .int .i64 x11_4.f1, .bool x11_4.f2, .bool x11_4.f3]), (111, .int .i64 y17_0), (110, .vec (x6_5).length 4 ((x6_5).flatMap e37)), (109, .int .i64 x10_5.f0), (108, .ptr 0 4 0), (5, .vec (x2_1.1).length 3 ((x2_1.1).flatMap e47)), (11, .vec (x6_2).length 4 ((x6_2).flatMap e37)), (12, .vec (x6_5).length 4 ((x6_5).flatMap e37)), (13, .vec (x6_10).length 4 ((x6_10).flatMap e37)), (14, .int .i64 y17_0), (15, .ptr 0 4 0)]
      refine ok_draw (p' := nav [0] g8p28) (eE := E28) (H' := (mkH [⟨[.int .i64 x10_5.f0, .int .i64 x10_5.f1, .bool x10_5.f2, .bool x10_5.f3], 4, false⟩])) (hs := []) [(0, 0, 0), (1, 0, 0), (0, 0, 0), (0, 0, 0), (12, 0, 0), (28, 0, 0), (60, 0, 0), (0, 0, 0), (128, 0, 0), (508, 0, 0), (1023, 0, 0), (2047, 0, 0), (4095, 0, 0), (8191, 0, 0), (4095, 0, 0), (4095, 0, 0), (53247, 0, 0), (118783, 0, 0), (249855, 0, 0), (4095, 0, 0), (528383, 0, 0), (2084863, 0, 0), (4194303, 0, 0), (8388607, 0, 0), (16777215, 0, 0), (33554431, 0, 0), (67108863, 0, 0), (33554431, 0, 0), (33554431, 0, 0), (436207615, 0, 0), (973078527, 0, 0), (2046820351, 0, 0), (4294967295, 0, 0), (8589934591, 0, 0), (17179869183, 0, 0), (34359738367, 0, 0), (68719476735, 0, 0), (137438953471, 0, 0), (274877906943, 0, 0), (549755813887, 0, 0), (274877906943, 0, 0), (274877906943, 0, 0), (3573412790271, 0, 0), (7971459301375, 0, 0), (16767552323583, 0, 0), (35184372088831, 0, 0), (70368744177663, 0, 0), (140737488355327, 0, 0)] (by kernel_rfl) (by kernel_rfl) (by kernel_rfl) (opsD_run 4 (l' := (opsAt g8p28).toList.drop 4) (eE := E23) (H' := (mkH [⟨[.int .i64 x10_5.f0, .int .i64 x10_5.f1, .bool x10_5.f2, .bool x10_5.f3], 4, false⟩])) (hs := []) (by kernel_rfl) (opsD_chk (l' := (opsAt g8p28).toList.drop 5) (eE := ((112, .vptr [.int .i64 x11_4.f0, .int .i64 x11_4.f1, .bool x11_4.f2, .bool x11_4.f3]) :: E23)) (hs := []) (x := x11_4) (fun (x11_4 : S36) => (.vptr [.int .i64 x11_4.f0, .int .i64 x11_4.f1, .bool x11_4.f2, .bool x11_4.f3], (mkH [⟨[.int .i64 x10_5.f0, .int .i64 x10_5.f1, .bool x10_5.f2, .bool x10_5.f3], 4, false⟩]))) (vidxH (sz := 4) e37_len (by kernel_rfl)) hx11_4 (by kernel_rfl) (opsD_run 7 (l' := (opsAt g8p28).toList.drop 12) (eE := E24) (H' := (mkH [⟨[.int .i64 x10_5.f0, .int .i64 x10_5.f1, .bool x10_5.f2, .bool x10_5.f3], 4, false⟩])) (hs := []) (by kernel_rfl) (opsD_env (eE := [(119, .bool false), (118, .bool false), (117, .int .i64 (fW .i64 (x11_4.f0 + (x2_1.1.length : Int)))), (116, .int .i64 (x2_1.1.length : Int)), (115, .vec (x2_1.1).length 3 ((x2_1.1).flatMap e47)), (114, .int .i64 x11_4.f0), (113, .vptr [.int .i64 x11_4.f0, .int .i64 x11_4.f1, .bool x11_4.f2, .bool x11_4.f3]), (112, .vptr [.int .i64 x11_4.f0, .int .i64 x11_4.f1, .bool x11_4.f2, .bool x11_4.f3]), (111, .int .i64 y17_0), (110, .vec (x6_5).length 4 ((x6_5).flatMap e37)), (109, .int .i64 x10_5.f0), (108, .ptr 0 4 0), (5, .vec (x2_1.1).length 3 ((x2_1.1).flatMap e47)), (11, .vec (x6_2).length 4 ((x6_2).flatMap e37)), (12, .vec (x6_5).length 4 ((x6_5).flatMap e37)), (13, .vec (x6_10).length 4 ((x6_10).flatMap e37)), (14, .int .i64 y17_0), (15, .ptr 0 4 0)]) (congrArg (fun z : Bool => ([(119, .bool z), (118, .bool z), (117, .int .i64 (fW .i64 (x11_4.f0 + (x2_1.1.length : Int)))), (116, .int .i64 (x2_1.1.length : Int)), (115, .vec (x2_1.1).length 3 ((x2_1.1).flatMap e47)), (114, .int .i64 x11_4.f0), (113, .vptr [.int .i64 x11_4.f0, .int .i64 x11_4.f1, .bool x11_4.f2, .bool x11_4.f3]), (112, .vptr [.int .i64 x11_4.f0, .int .i64 x11_4.f1, .bool x11_4.f2, .bool x11_4.f3]), (111, .int .i64 y17_0), (110, .vec (x6_5).length 4 ((x6_5).flatMap e37)), (109, .int .i64 x10_5.f0), (108, .ptr 0 4 0), (5, .vec (x2_1.1).length 3 ((x2_1.1).flatMap e47)), (11, .vec (x6_2).length 4 ((x6_2).flatMap e37)), (12, .vec (x6_5).length 4 ((x6_5).flatMap e37)), (13, .vec (x6_10).length 4 ((x6_10).flatMap e37)), (14, .int .i64 y17_0), (15, .ptr 0 4 0)] : Env)) hb18) (opsD_run 4 (l' := (opsAt g8p28).toList.drop 16) (eE := E26) (H' := (mkH [⟨[.int .i64 x10_5.f0, .int .i64 x10_5.f1, .bool x10_5.f2, .bool x10_5.f3], 4, false⟩])) (hs := []) (by kernel_rfl) (opsD_chk (l' := (opsAt g8p28).toList.drop 17) (eE := ((124, .vptr [.int .i64 x11_16.f0, .int .i64 x11_16.f1, .bool x11_16.f2, .bool x11_16.f3]) :: E26)) (hs := []) (x := x11_16) (fun (x11_16 : S36) => (.vptr [.int .i64 x11_16.f0, .int .i64 x11_16.f1, .bool x11_16.f2, .bool x11_16.f3], (mkH [⟨[.int .i64 x10_5.f0, .int .i64 x10_5.f1, .bool x10_5.f2, .bool x10_5.f3], 4, false⟩]))) (vidxH (sz := 4) e37_len (by kernel_rfl)) hx11_16 (by kernel_rfl) (opsD_run 8 (l' := (opsAt g8p28).toList.drop 25) (eE := E27) (H' := (mkH [⟨[.int .i64 x10_5.f0, .int .i64 x10_5.f1, .bool x10_5.f2, .bool x10_5.f3], 4, false⟩])) (hs := []) (by kernel_rfl) (opsD_env (eE := [(132, .bool true), (131, .bool true), (130, .bool true), (129, .int .i64 (fW .i64 (x11_16.f1 + (x2_1.1.length : Int)))), (128, .int .i64 (x2_1.1.length : Int)), (127, .vec (x2_1.1).length 3 ((x2_1.1).flatMap e47)), (126, .int .i64 x11_16.f1), (125, .vptr [.int .i64 x11_16.f1, .bool x11_16.f2, .bool x11_16.f3]), (124, .vptr [.int .i64 x11_16.f0, .int .i64 x11_16.f1, .bool x11_16.f2, .bool x11_16.f3]), (123, .int .i64 y17_0), (122, .vec (x6_5).length 4 ((x6_5).flatMap e37)), (121, .int .i64 x10_5.f1), (120, .ptr 0 4 1), (119, .bool false), (118, .bool false), (117, .int .i64 (fW .i64 (x11_4.f0 + (x2_1.1.length : Int)))), (116, .int .i64 (x2_1.1.length : Int)), (115, .vec (x2_1.1).length 3 ((x2_1.1).flatMap e47)), (114, .int .i64 x11_4.f0), (113, .vptr [.int .i64 x11_4.f0, .int .i64 x11_4.f1, .bool x11_4.f2, .bool x11_4.f3]), (112, .vptr [.int .i64 x11_4.f0, .int .i64 x11_4.f1, .bool x11_4.f2, .bool x11_4.f3]), (111, .int .i64 y17_0), (110, .vec (x6_5).length 4 ((x6_5).flatMap e37)), (109, .int .i64 x10_5.f0), (108, .ptr 0 4 0), (5, .vec (x2_1.1).length 3 ((x2_1.1).flatMap e47)), (11, .vec (x6_2).length 4 ((x6_2).flatMap e37)), (12, .vec (x6_5).length 4 ((x6_5).flatMap e37)), (13, .vec (x6_10).length 4 ((x6_10).flatMap e37)), (14, .int .i64 y17_0), (15, .ptr 0 4 0)]) (congrArg (fun z : Bool => ([(132, .bool z), (131, .bool z), (130, .bool z), (129, .int .i64 (fW .i64 (x11_16.f1 + (x2_1.1.length : Int)))), (128, .int .i64 (x2_1.1.length : Int)), (127, .vec (x2_1.1).length 3 ((x2_1.1).flatMap e47)), (126, .int .i64 x11_16.f1), (125, .vptr [.int .i64 x11_16.f1, .bool x11_16.f2, .bool x11_16.f3]), (124, .vptr [.int .i64 x11_16.f0, .int .i64 x11_16.f1, .bool x11_16.f2, .bool x11_16.f3]), (123, .int .i64 y17_0), (122, .vec (x6_5).length 4 ((x6_5).flatMap e37)), (121, .int .i64 x10_5.f1), (120, .ptr 0 4 1), (119, .bool false), (118, .bool false), (117, .int .i64 (fW .i64 (x11_4.f0 + (x2_1.1.length : Int)))), (116, .int .i64 (x2_1.1.length : Int)), (115, .vec (x2_1.1).length 3 ((x2_1.1).flatMap e47)), (114, .int .i64 x11_4.f0), (113, .vptr [.int .i64 x11_4.f0, .int .i64 x11_4.f1, .bool x11_4.f2, .bool x11_4.f3]), (112, .vptr [.int .i64 x11_4.f0, .int .i64 x11_4.f1, .bool x11_4.f2, .bool x11_4.f3]), (111, .int .i64 y17_0), (110, .vec (x6_5).length 4 ((x6_5).flatMap e37)), (109, .int .i64 x10_5.f0), (108, .ptr 0 4 0), (5, .vec (x2_1.1).length 3 ((x2_1.1).flatMap e47)), (11, .vec (x6_2).length 4 ((x6_2).flatMap e37)), (12, .vec (x6_5).length 4 ((x6_5).flatMap e37)), (13, .vec (x6_10).length 4 ((x6_10).flatMap e37)), (14, .int .i64 y17_0), (15, .ptr 0 4 0)] : Env)) hb19) (opsD_run 23 (l' := (opsAt g8p28).toList.drop 48) (eE := E28) (H' := (mkH [⟨[.int .i64 x10_5.f0, .int .i64 x10_5.f1, .bool x10_5.f2, .bool x10_5.f3], 4, false⟩])) (hs := []) (by kernel_rfl) (.nil)))))))))) (by kernel_rfl) (by kernel_rfl) (by kernel_rfl) ?_
      refine oK [5, 11, 12, 13, 14, 155] (eE := [(5, .vec (x2_1.1).length 3 ((x2_1.1).flatMap e47)), (11, .vec (x6_2).length 4 ((x6_2).flatMap e37)), (12, .vec (x6_5).length 4 ((x6_5).flatMap e37)), (13, .vec (x6_10).length 4 ((x6_10).flatMap e37)), (14, .int .i64 y17_0), (155, .bool true)]) (by kernel_rfl) ?_
      refine ok_cut [] [⟨[.int .i64 x10_5.f0, .int .i64 x10_5.f1, .bool x10_5.f2, .bool x10_5.f3], 4, false⟩] (by kernel_rfl) rfl (by kernel_rfl) trivial ?_
      exact hj18 (true, y17_0)
     ·refine ok_bind (fun x11_29 hx11_29 => ?_)
      refine ok_if (fun hb20 => ?_) (fun hb20 => ?_)
      ·let E23 : Env := [(111, .int .i64 y17_0), (110, .vec (x6_5).length 4 ((x6_5).flatMap e37)), (109, .int .i64 x10_5.f0), (108, .ptr 0 4 0), (5, .vec (x2_1.1).length 3 ((x2_1.1).flatMap e47)), (11, .vec (x6_2).length 4 ((x6_2).flatMap e37)), (12, .vec (x6_5).length 4 ((x6_5).flatMap e37)), (13, .vec (x6_10).length 4 ((x6_10).flatMap e37)), (14, .int .i64 y17_0), (15, .ptr 0 4 0)]
       let E24 : Env := ((119, .bool (!decide (x10_5.f0 = fW .i64 (x11_4.f0 + (x2_1.1.length : Int))))) :: (118, .bool (!decide (x10_5.f0 = fW .i64 (x11_4.f0 + (x2_1.1.length : Int))))) :: (117, .int .i64 (fW .i64 (x11_4.f0 + (x2_1.1.length : Int)))) :: (116, .int .i64 (x2_1.1.length : Int)) :: (115, .vec (x2_1.1).length 3 ((x2_1.1).flatMap e47)) :: (114, .int .i64 x11_4.f0) :: (113, .vptr [.int .i64 x11_4.f0, .int .i64 x11_4.f1, .bool x11_4.f2, .bool x11_4.f3]) :: (112, .vptr [.int .i64 x11_4.f0, .int .i64 x11_4.f1, .bool x11_4.f2, .bool x11_4.f3]) :: E23)
       let E26 : Env := [(123, .int .i64 y17_0), (122, .vec (x6_5).length 4 ((x6_5).flatMap e37)), (121, .int .i64 x10_5.f1), (120, .ptr 0 4 1), (119, .bool false), (118, .bool false), (117, .int .i64 (fW .i64 (x11_4.f0 + (x2_1.1.length : Int)))), (116, .int .i64 (x2_1.1.length : Int)), (115, .vec (x2_1.1).length 3 ((x2_1.1).flatMap e47)), (114, .int .i64 x11_4.f0), (113, .vptr [.int .i64 x11_4.f0, .int .i64 x11_4.f1, .bool x11_4.f2, .bool x11_4.f3]), (112, .vptr [.int .i64 x11_4.f0, .int .i64 x11_4.f1, .bool x11_4.f2, .bool x11_4.f3]), (111, .int .i64 y17_0), (110, .vec (x6_5).length 4 ((x6_5).flatMap e37)), (109, .int .i64 x10_5.f0), (108, .ptr 0 4 0), (5, .vec (x2_1.1).length 3 ((x2_1.1).flatMap e47)), (11, .vec (x6_2).length 4 ((x6_2).flatMap e37)), (12, .vec (x6_5).length 4 ((x6_5).flatMap e37)), (13, .vec (x6_10).length 4 ((x6_10).flatMap e37)), (14, .int .i64 y17_0), (15, .ptr 0 4 0)]
       let E27 : Env := ((132, .bool (!decide (x10_5.f1 = fW .i64 (x11_16.f1 + (x2_1.1.length : Int))))) :: (131, .bool (!decide (x10_5.f1 = fW .i64 (x11_16.f1 + (x2_1.1.length : Int))))) :: (130, .bool (!decide (x10_5.f1 = fW .i64 (x11_16.f1 + (x2_1.1.length : Int))))) :: (129, .int .i64 (fW .i64 (x11_16.f1 + (x2_1.1.length : Int)))) :: (128, .int .i64 (x2_1.1.length : Int)) :: (127, .vec (x2_1.1).length 3 ((x2_1.1).flatMap e47)) :: (126, .int .i64 x11_16.f1) :: (125, .vptr [.int .i64 x11_16.f1, .bool x11_16.f2, .bool x11_16.f3]) :: (124, .vptr [.int .i64 x11_16.f0, .int .i64 x11_16.f1, .bool x11_16.f2, .bool x11_16.f3]) :: E26)
       let E29 : Env := [(136, .int .i64 y17_0), (135, .vec (x6_5).length 4 ((x6_5).flatMap e37)), (134, .bool x10_5.f2), (133, .ptr 0 4 2), (132, .bool false), (131, .bool false), (130, .bool false), (129, .int .i64 (fW .i64 (x11_16.f1 + (x2_1.1.length : Int)))), (128, .int .i64 (x2_1.1.length : Int)), (127, .vec (x2_1.1).length 3 ((x2_1.1).flatMap e47)), (126, .int .i64 x11_16.f1), (125, .vptr [.int .i64 x11_16.f1, .bool x11_16.f2, .bool x11_16.f3]), (124, .vptr [.int .i64 x11_16.f0, .int .i64 x11_16.f1, .bool x11_16.f2, .bool x11_16.f3]), (123, .int .i64 y17_0), (122, .vec (x6_5).length 4 ((x6_5).flatMap e37)), (121, .int .i64 x10_5.f1), (120, .ptr 0 4 1), (119, .bool false), (118, .bool false), (117, .int .i64 (fW .i64 (x11_4.f0 + (x2_1.1.length : Int)))), (116, .int .i64 (x2_1.1.length : Int)), (115, .vec (x2_1.1).length 3 ((x2_1.1).flatMap e47)), (114, .int .i64 x11_4.f0), (113, .vptr [.int .i64 x11_4.f0, .int .i64 x11_4.f1, .bool x11_4.f2, .bool x11_4.f3]), (112, .vptr [.int .i64 x11_4.f0, .int .i64 x11_4.f1, .bool x11_4.f2, .bool x11_4.f3]), (111, .int .i64 y17_0), (110, .vec (x6_5).length 4 ((x6_5).flatMap e37)), (109, .int .i64 x10_5.f0), (108, .ptr 0 4 0), (5, .vec (x2_1.1).length 3 ((x2_1.1).flatMap e47)), (11, .vec (x6_2).length 4 ((x6_2).flatMap e37)), (12, .vec (x6_5).length 4 ((x6_5).flatMap e37)), (13, .vec (x6_10).length 4 ((x6_10).flatMap e37)), (14, .int .i64 y17_0), (15, .ptr 0 4 0)]
       let E30 : Env := ((142, .bool (!(x10_5.f2 == x11_29.f2))) :: (141, .bool (!(x10_5.f2 == x11_29.f2))) :: (140, .bool (!(x10_5.f2 == x11_29.f2))) :: (139, .bool x11_29.f2) :: (138, .vptr [.bool x11_29.f2, .bool x11_29.f3]) :: (137, .vptr [.int .i64 x11_29.f0, .int .i64 x11_29.f1, .bool x11_29.f2, .bool x11_29.f3]) :: E29)
       let E31 : Env := [(155, .bool true), (154, .tuple []), (153, .tuple []), (152, .tuple []), (151, .tuple []), (150, .tuple []), (149, .tuple []), (148, .tuple []), (147, .tuple []), (146, .tuple []), (145, .tuple []), (144, .tuple []), (143, .tuple []), (142, .bool true), (141, .bool true), (140, .bool true), (139, .bool x11_29.f2), (138, .vptr [.bool x11_29.f2, .bool x11_29.f3]), (137, .vptr [.int .i64 x11_29.f0, .int .i64 x11_29.f1, .bool x11_29.f2, .bool x11_29.f3]), (136, .int .i64 y17_0), (135, .vec (x6_5).length 4 ((x6_5).flatMap e37)), (134, .bool x10_5.f2), (133, .ptr 0 4 2), (132, .bool false), (131, .bool false), (130, .bool false), (129, .int .i64 (fW .i64 (x11_16.f1 + (x2_1.1.length : Int)))), (128, .int .i64 (x2_1.1.length : Int)), (127, .vec (x2_1.1).length 3 ((x2_1.1).flatMap e47)), (126, .int .i64 x11_16.f1), (125, .vptr [.int .i64 x11_16.f1, .bool x11_16.f2, .bool x11_16.f3]), (124, .vptr [.int .i64 x11_16.f0, .int .i64 x11_16.f1, .bool x11_16.f2, .bool x11_16.f3]), (123, .int .i64 y17_0), (122, .vec (x6_5).length 4 ((x6_5).flatMap e37)), (121, .int .i64 x10_5.f1), (120, .ptr 0 4 1), (119, .bool false), (118, .bool false), (117, .int .i64 (fW .i64 (x11_4.f0 + (x2_1.1.length : Int)))), (116, .int .i64 (x2_1.1.length : Int)), (115, .vec (x2_1.1).length 3 ((x2_1.1).flatMap e47)), (114, .int .i64 x11_4.f0), (113, .vptr [.int .i64 x11_4.f0, .int .i64 x11_4.f1, .bool x11_4.f2, .bool x11_4.f3]), (112, .vptr [.int .i64 x11_4.f0, .int .i64 x11_4.f1, .bool x11_4.f2, .bool x11_4.f3]), (111, .int .i64 y17_0), (110, .vec (x6_5).length 4 ((x6_5).flatMap e37)), (109, .int .i64 x10_5.f0), (108, .ptr 0 4 0), (5, .vec (x2_1.1).length 3 ((x2_1.1).flatMap e47)), (11, .vec (x6_2).length 4 ((x6_2).flatMap e37)), (12, .vec (x6_5).length 4 ((x6_5).flatMap e37)), (13, .vec (x6_10).length 4 ((x6_10).flatMap e37)), (14, .int .i64 y17_0), (15, .ptr 0 4 0)]
       refine ok_draw (p' := nav [0] g8p28) (eE := E31) (H' := (mkH [⟨[.int .i64 x10_5.f0, .int .i64 x10_5.f1, .bool x10_5.f2, .bool x10_5.f3], 4, false⟩])) (hs := []) [(0, 0, 0), (1, 0, 0), (0, 0, 0), (0, 0, 0), (12, 0, 0), (28, 0, 0), (60, 0, 0), (0, 0, 0), (128, 0, 0), (508, 0, 0), (1023, 0, 0), (2047, 0, 0), (4095, 0, 0), (8191, 0, 0), (4095, 0, 0), (4095, 0, 0), (53247, 0, 0), (118783, 0, 0), (249855, 0, 0), (4095, 0, 0), (528383, 0, 0), (2084863, 0, 0), (4194303, 0, 0), (8388607, 0, 0), (16777215, 0, 0), (33554431, 0, 0), (67108863, 0, 0), (33554431, 0, 0), (33554431, 0, 0), (436207615, 0, 0), (973078527, 0, 0), (2046820351, 0, 0), (4294967295, 0, 0), (8589934591, 0, 0), (17179869183, 0, 0), (34359738367, 0, 0), (68719476735, 0, 0), (137438953471, 0, 0), (274877906943, 0, 0), (549755813887, 0, 0), (274877906943, 0, 0), (274877906943, 0, 0), (3573412790271, 0, 0), (7971459301375, 0, 0), (16767552323583, 0, 0), (35184372088831, 0, 0), (70368744177663, 0, 0), (140737488355327, 0, 0)] (by kernel_rfl) (by kernel_rfl) (by kernel_rfl) (opsD_run 4 (l' := (opsAt g8p28).toList.drop 4) (eE := E23) (H' := (mkH [⟨[.int .i64 x10_5.f0, .int .i64 x10_5.f1, .bool x10_5.f2, .bool x10_5.f3], 4, false⟩])) (hs := []) (by kernel_rfl) (opsD_chk (l' := (opsAt g8p28).toList.drop 5) (eE := ((112, .vptr [.int .i64 x11_4.f0, .int .i64 x11_4.f1, .bool x11_4.f2, .bool x11_4.f3]) :: E23)) (hs := []) (x := x11_4) (fun (x11_4 : S36) => (.vptr [.int .i64 x11_4.f0, .int .i64 x11_4.f1, .bool x11_4.f2, .bool x11_4.f3], (mkH [⟨[.int .i64 x10_5.f0, .int .i64 x10_5.f1, .bool x10_5.f2, .bool x10_5.f3], 4, false⟩]))) (vidxH (sz := 4) e37_len (by kernel_rfl)) hx11_4 (by kernel_rfl) (opsD_run 7 (l' := (opsAt g8p28).toList.drop 12) (eE := E24) (H' := (mkH [⟨[.int .i64 x10_5.f0, .int .i64 x10_5.f1, .bool x10_5.f2, .bool x10_5.f3], 4, false⟩])) (hs := []) (by kernel_rfl) (opsD_env (eE := [(119, .bool false), (118, .bool false), (117, .int .i64 (fW .i64 (x11_4.f0 + (x2_1.1.length : Int)))), (116, .int .i64 (x2_1.1.length : Int)), (115, .vec (x2_1.1).length 3 ((x2_1.1).flatMap e47)), (114, .int .i64 x11_4.f0), (113, .vptr [.int .i64 x11_4.f0, .int .i64 x11_4.f1, .bool x11_4.f2, .bool x11_4.f3]), (112, .vptr [.int .i64 x11_4.f0, .int .i64 x11_4.f1, .bool x11_4.f2, .bool x11_4.f3]), (111, .int .i64 y17_0), (110, .vec (x6_5).length 4 ((x6_5).flatMap e37)), (109, .int .i64 x10_5.f0), (108, .ptr 0 4 0), (5, .vec (x2_1.1).length 3 ((x2_1.1).flatMap e47)), (11, .vec (x6_2).length 4 ((x6_2).flatMap e37)), (12, .vec (x6_5).length 4 ((x6_5).flatMap e37)), (13, .vec (x6_10).length 4 ((x6_10).flatMap e37)), (14, .int .i64 y17_0), (15, .ptr 0 4 0)]) (congrArg (fun z : Bool => ([(119, .bool z), (118, .bool z), (117, .int .i64 (fW .i64 (x11_4.f0 + (x2_1.1.length : Int)))), (116, .int .i64 (x2_1.1.length : Int)), (115, .vec (x2_1.1).length 3 ((x2_1.1).flatMap e47)), (114, .int .i64 x11_4.f0), (113, .vptr [.int .i64 x11_4.f0, .int .i64 x11_4.f1, .bool x11_4.f2, .bool x11_4.f3]), (112, .vptr [.int .i64 x11_4.f0, .int .i64 x11_4.f1, .bool x11_4.f2, .bool x11_4.f3]), (111, .int .i64 y17_0), (110, .vec (x6_5).length 4 ((x6_5).flatMap e37)), (109, .int .i64 x10_5.f0), (108, .ptr 0 4 0), (5, .vec (x2_1.1).length 3 ((x2_1.1).flatMap e47)), (11, .vec (x6_2).length 4 ((x6_2).flatMap e37)), (12, .vec (x6_5).length 4 ((x6_5).flatMap e37)), (13, .vec (x6_10).length 4 ((x6_10).flatMap e37)), (14, .int .i64 y17_0), (15, .ptr 0 4 0)] : Env)) hb18) (opsD_run 4 (l' := (opsAt g8p28).toList.drop 16) (eE := E26) (H' := (mkH [⟨[.int .i64 x10_5.f0, .int .i64 x10_5.f1, .bool x10_5.f2, .bool x10_5.f3], 4, false⟩])) (hs := []) (by kernel_rfl) (opsD_chk (l' := (opsAt g8p28).toList.drop 17) (eE := ((124, .vptr [.int .i64 x11_16.f0, .int .i64 x11_16.f1, .bool x11_16.f2, .bool x11_16.f3]) :: E26)) (hs := []) (x := x11_16) (fun (x11_16 : S36) => (.vptr [.int .i64 x11_16.f0, .int .i64 x11_16.f1, .bool x11_16.f2, .bool x11_16.f3], (mkH [⟨[.int .i64 x10_5.f0, .int .i64 x10_5.f1, .bool x10_5.f2, .bool x10_5.f3], 4, false⟩]))) (vidxH (sz := 4) e37_len (by kernel_rfl)) hx11_16 (by kernel_rfl) (opsD_run 8 (l' := (opsAt g8p28).toList.drop 25) (eE := E27) (H' := (mkH [⟨[.int .i64 x10_5.f0, .int .i64 x10_5.f1, .bool x10_5.f2, .bool x10_5.f3], 4, false⟩])) (hs := []) (by kernel_rfl) (opsD_env (eE := [(132, .bool false), (131, .bool false), (130, .bool false), (129, .int .i64 (fW .i64 (x11_16.f1 + (x2_1.1.length : Int)))), (128, .int .i64 (x2_1.1.length : Int)), (127, .vec (x2_1.1).length 3 ((x2_1.1).flatMap e47)), (126, .int .i64 x11_16.f1), (125, .vptr [.int .i64 x11_16.f1, .bool x11_16.f2, .bool x11_16.f3]), (124, .vptr [.int .i64 x11_16.f0, .int .i64 x11_16.f1, .bool x11_16.f2, .bool x11_16.f3]), (123, .int .i64 y17_0), (122, .vec (x6_5).length 4 ((x6_5).flatMap e37)), (121, .int .i64 x10_5.f1), (120, .ptr 0 4 1), (119, .bool false), (118, .bool false), (117, .int .i64 (fW .i64 (x11_4.f0 + (x2_1.1.length : Int)))), (116, .int .i64 (x2_1.1.length : Int)), (115, .vec (x2_1.1).length 3 ((x2_1.1).flatMap e47)), (114, .int .i64 x11_4.f0), (113, .vptr [.int .i64 x11_4.f0, .int .i64 x11_4.f1, .bool x11_4.f2, .bool x11_4.f3]), (112, .vptr [.int .i64 x11_4.f0, .int .i64 x11_4.f1, .bool x11_4.f2, .bool x11_4.f3]), (111, .int .i64 y17_0), (110, .vec (x6_5).length 4 ((x6_5).flatMap e37)), (109, .int .i64 x10_5.f0), (108, .ptr 0 4 0), (5, .vec (x2_1.1).length 3 ((x2_1.1).flatMap e47)), (11, .vec (x6_2).length 4 ((x6_2).flatMap e37)), (12, .vec (x6_5).length 4 ((x6_5).flatMap e37)), (13, .vec (x6_10).length 4 ((x6_10).flatMap e37)), (14, .int .i64 y17_0), (15, .ptr 0 4 0)]) (congrArg (fun z : Bool => ([(132, .bool z), (131, .bool z), (130, .bool z), (129, .int .i64 (fW .i64 (x11_16.f1 + (x2_1.1.length : Int)))), (128, .int .i64 (x2_1.1.length : Int)), (127, .vec (x2_1.1).length 3 ((x2_1.1).flatMap e47)), (126, .int .i64 x11_16.f1), (125, .vptr [.int .i64 x11_16.f1, .bool x11_16.f2, .bool x11_16.f3]), (124, .vptr [.int .i64 x11_16.f0, .int .i64 x11_16.f1, .bool x11_16.f2, .bool x11_16.f3]), (123, .int .i64 y17_0), (122, .vec (x6_5).length 4 ((x6_5).flatMap e37)), (121, .int .i64 x10_5.f1), (120, .ptr 0 4 1), (119, .bool false), (118, .bool false), (117, .int .i64 (fW .i64 (x11_4.f0 + (x2_1.1.length : Int)))), (116, .int .i64 (x2_1.1.length : Int)), (115, .vec (x2_1.1).length 3 ((x2_1.1).flatMap e47)), (114, .int .i64 x11_4.f0), (113, .vptr [.int .i64 x11_4.f0, .int .i64 x11_4.f1, .bool x11_4.f2, .bool x11_4.f3]), (112, .vptr [.int .i64 x11_4.f0, .int .i64 x11_4.f1, .bool x11_4.f2, .bool x11_4.f3]), (111, .int .i64 y17_0), (110, .vec (x6_5).length 4 ((x6_5).flatMap e37)), (109, .int .i64 x10_5.f0), (108, .ptr 0 4 0), (5, .vec (x2_1.1).length 3 ((x2_1.1).flatMap e47)), (11, .vec (x6_2).length 4 ((x6_2).flatMap e37)), (12, .vec (x6_5).length 4 ((x6_5).flatMap e37)), (13, .vec (x6_10).length 4 ((x6_10).flatMap e37)), (14, .int .i64 y17_0), (15, .ptr 0 4 0)] : Env)) hb19) (opsD_run 4 (l' := (opsAt g8p28).toList.drop 29) (eE := E29) (H' := (mkH [⟨[.int .i64 x10_5.f0, .int .i64 x10_5.f1, .bool x10_5.f2, .bool x10_5.f3], 4, false⟩])) (hs := []) (by kernel_rfl) (opsD_chk (l' := (opsAt g8p28).toList.drop 30) (eE := ((137, .vptr [.int .i64 x11_29.f0, .int .i64 x11_29.f1, .bool x11_29.f2, .bool x11_29.f3]) :: E29)) (hs := []) (x := x11_29) (fun (x11_29 : S36) => (.vptr [.int .i64 x11_29.f0, .int .i64 x11_29.f1, .bool x11_29.f2, .bool x11_29.f3], (mkH [⟨[.int .i64 x10_5.f0, .int .i64 x10_5.f1, .bool x10_5.f2, .bool x10_5.f3], 4, false⟩]))) (vidxH (sz := 4) e37_len (by kernel_rfl)) hx11_29 (by kernel_rfl) (opsD_run 5 (l' := (opsAt g8p28).toList.drop 35) (eE := E30) (H' := (mkH [⟨[.int .i64 x10_5.f0, .int .i64 x10_5.f1, .bool x10_5.f2, .bool x10_5.f3], 4, false⟩])) (hs := []) (by kernel_rfl) (opsD_env (eE := [(142, .bool true), (141, .bool true), (140, .bool true), (139, .bool x11_29.f2), (138, .vptr [.bool x11_29.f2, .bool x11_29.f3]), (137, .vptr [.int .i64 x11_29.f0, .int .i64 x11_29.f1, .bool x11_29.f2, .bool x11_29.f3]), (136, .int .i64 y17_0), (135, .vec (x6_5).length 4 ((x6_5).flatMap e37)), (134, .bool x10_5.f2), (133, .ptr 0 4 2), (132, .bool false), (131, .bool false), (130, .bool false), (129, .int .i64 (fW .i64 (x11_16.f1 + (x2_1.1.length : Int)))), (128, .int .i64 (x2_1.1.length : Int)), (127, .vec (x2_1.1).length 3 ((x2_1.1).flatMap e47)), (126, .int .i64 x11_16.f1), (125, .vptr [.int .i64 x11_16.f1, .bool x11_16.f2, .bool x11_16.f3]), (124, .vptr [.int .i64 x11_16.f0, .int .i64 x11_16.f1, .bool x11_16.f2, .bool x11_16.f3]), (123, .int .i64 y17_0), (122, .vec (x6_5).length 4 ((x6_5).flatMap e37)), (121, .int .i64 x10_5.f1), (120, .ptr 0 4 1), (119, .bool false), (118, .bool false), (117, .int .i64 (fW .i64 (x11_4.f0 + (x2_1.1.length : Int)))), (116, .int .i64 (x2_1.1.length : Int)), (115, .vec (x2_1.1).length 3 ((x2_1.1).flatMap e47)), (114, .int .i64 x11_4.f0), (113, .vptr [.int .i64 x11_4.f0, .int .i64 x11_4.f1, .bool x11_4.f2, .bool x11_4.f3]), (112, .vptr [.int .i64 x11_4.f0, .int .i64 x11_4.f1, .bool x11_4.f2, .bool x11_4.f3]), (111, .int .i64 y17_0), (110, .vec (x6_5).length 4 ((x6_5).flatMap e37)), (109, .int .i64 x10_5.f0), (108, .ptr 0 4 0), (5, .vec (x2_1.1).length 3 ((x2_1.1).flatMap e47)), (11, .vec (x6_2).length 4 ((x6_2).flatMap e37)), (12, .vec (x6_5).length 4 ((x6_5).flatMap e37)), (13, .vec (x6_10).length 4 ((x6_10).flatMap e37)), (14, .int .i64 y17_0), (15, .ptr 0 4 0)]) (congrArg (fun z : Bool => ([(142, .bool z), (141, .bool z), (140, .bool z), (139, .bool x11_29.f2), (138, .vptr [.bool x11_29.f2, .bool x11_29.f3]), (137, .vptr [.int .i64 x11_29.f0, .int .i64 x11_29.f1, .bool x11_29.f2, .bool x11_29.f3]), (136, .int .i64 y17_0), (135, .vec (x6_5).length 4 ((x6_5).flatMap e37)), (134, .bool x10_5.f2), (133, .ptr 0 4 2), (132, .bool false), (131, .bool false), (130, .bool false), (129, .int .i64 (fW .i64 (x11_16.f1 + (x2_1.1.length : Int)))), (128, .int .i64 (x2_1.1.length : Int)), (127, .vec (x2_1.1).length 3 ((x2_1.1).flatMap e47)), (126, .int .i64 x11_16.f1), (125, .vptr [.int .i64 x11_16.f1, .bool x11_16.f2, .bool x11_16.f3]), (124, .vptr [.int .i64 x11_16.f0, .int .i64 x11_16.f1, .bool x11_16.f2, .bool x11_16.f3]), (123, .int .i64 y17_0), (122, .vec (x6_5).length 4 ((x6_5).flatMap e37)), (121, .int .i64 x10_5.f1), (120, .ptr 0 4 1), (119, .bool false), (118, .bool false), (117, .int .i64 (fW .i64 (x11_4.f0 + (x2_1.1.length : Int)))), (116, .int .i64 (x2_1.1.length : Int)), (115, .vec (x2_1.1).length 3 ((x2_1.1).flatMap e47)), (114, .int .i64 x11_4.f0), (113, .vptr [.int .i64 x11_4.f0, .int .i64 x11_4.f1, .bool x11_4.f2, .bool x11_4.f3]), (112, .vptr [.int .i64 x11_4.f0, .int .i64 x11_4.f1, .bool x11_4.f2, .bool x11_4.f3]), (111, .int .i64 y17_0), (110, .vec (x6_5).length 4 ((x6_5).flatMap e37)), (109, .int .i64 x10_5.f0), (108, .ptr 0 4 0), (5, .vec (x2_1.1).length 3 ((x2_1.1).flatMap e47)), (11, .vec (x6_2).length 4 ((x6_2).flatMap e37)), (12, .vec (x6_5).length 4 ((x6_5).flatMap e37)), (13, .vec (x6_10).length 4 ((x6_10).flatMap e37)), (14, .int .i64 y17_0), (15, .ptr 0 4 0)] : Env)) hb20) (opsD_run 13 (l' := (opsAt g8p28).toList.drop 48) (eE := E31) (H' := (mkH [⟨[.int .i64 x10_5.f0, .int .i64 x10_5.f1, .bool x10_5.f2, .bool x10_5.f3], 4, false⟩])) (hs := []) (by kernel_rfl) (.nil)))))))))))))) (by kernel_rfl) (by kernel_rfl) (by kernel_rfl) ?_
       refine oK [5, 11, 12, 13, 14, 155] (eE := [(5, .vec (x2_1.1).length 3 ((x2_1.1).flatMap e47)), (11, .vec (x6_2).length 4 ((x6_2).flatMap e37)), (12, .vec (x6_5).length 4 ((x6_5).flatMap e37)), (13, .vec (x6_10).length 4 ((x6_10).flatMap e37)), (14, .int .i64 y17_0), (155, .bool true)]) (by kernel_rfl) ?_
       refine ok_cut [] [⟨[.int .i64 x10_5.f0, .int .i64 x10_5.f1, .bool x10_5.f2, .bool x10_5.f3], 4, false⟩] (by kernel_rfl) rfl (by kernel_rfl) trivial ?_
       exact hj18 (true, y17_0)
      ·refine ok_if (fun hb21 => ?_) (fun hb21 => ?_)
       ·refine ok_bind (fun x11_42 hx11_42 => ?_)
        let E23 : Env := [(111, .int .i64 y17_0), (110, .vec (x6_5).length 4 ((x6_5).flatMap e37)), (109, .int .i64 x10_5.f0), (108, .ptr 0 4 0), (5, .vec (x2_1.1).length 3 ((x2_1.1).flatMap e47)), (11, .vec (x6_2).length 4 ((x6_2).flatMap e37)), (12, .vec (x6_5).length 4 ((x6_5).flatMap e37)), (13, .vec (x6_10).length 4 ((x6_10).flatMap e37)), (14, .int .i64 y17_0), (15, .ptr 0 4 0)]
        let E24 : Env := ((119, .bool (!decide (x10_5.f0 = fW .i64 (x11_4.f0 + (x2_1.1.length : Int))))) :: (118, .bool (!decide (x10_5.f0 = fW .i64 (x11_4.f0 + (x2_1.1.length : Int))))) :: (117, .int .i64 (fW .i64 (x11_4.f0 + (x2_1.1.length : Int)))) :: (116, .int .i64 (x2_1.1.length : Int)) :: (115, .vec (x2_1.1).length 3 ((x2_1.1).flatMap e47)) :: (114, .int .i64 x11_4.f0) :: (113, .vptr [.int .i64 x11_4.f0, .int .i64 x11_4.f1, .bool x11_4.f2, .bool x11_4.f3]) :: (112, .vptr [.int .i64 x11_4.f0, .int .i64 x11_4.f1, .bool x11_4.f2, .bool x11_4.f3]) :: E23)
        let E26 : Env := [(123, .int .i64 y17_0), (122, .vec (x6_5).length 4 ((x6_5).flatMap e37)), (121, .int .i64 x10_5.f1), (120, .ptr 0 4 1), (119, .bool false), (118, .bool false), (117, .int .i64 (fW .i64 (x11_4.f0 + (x2_1.1.length : Int)))), (116, .int .i64 (x2_1.1.length : Int)), (115, .vec (x2_1.1).length 3 ((x2_1.1).flatMap e47)), (114, .int .i64 x11_4.f0), (113, .vptr [.int .i64 x11_4.f0, .int .i64 x11_4.f1, .bool x11_4.f2, .bool x11_4.f3]), (112, .vptr [.int .i64 x11_4.f0, .int .i64 x11_4.f1, .bool x11_4.f2, .bool x11_4.f3]), (111, .int .i64 y17_0), (110, .vec (x6_5).length 4 ((x6_5).flatMap e37)), (109, .int .i64 x10_5.f0), (108, .ptr 0 4 0), (5, .vec (x2_1.1).length 3 ((x2_1.1).flatMap e47)), (11, .vec (x6_2).length 4 ((x6_2).flatMap e37)), (12, .vec (x6_5).length 4 ((x6_5).flatMap e37)), (13, .vec (x6_10).length 4 ((x6_10).flatMap e37)), (14, .int .i64 y17_0), (15, .ptr 0 4 0)]
        let E27 : Env := ((132, .bool (!decide (x10_5.f1 = fW .i64 (x11_16.f1 + (x2_1.1.length : Int))))) :: (131, .bool (!decide (x10_5.f1 = fW .i64 (x11_16.f1 + (x2_1.1.length : Int))))) :: (130, .bool (!decide (x10_5.f1 = fW .i64 (x11_16.f1 + (x2_1.1.length : Int))))) :: (129, .int .i64 (fW .i64 (x11_16.f1 + (x2_1.1.length : Int)))) :: (128, .int .i64 (x2_1.1.length : Int)) :: (127, .vec (x2_1.1).length 3 ((x2_1.1).flatMap e47)) :: (126, .int .i64 x11_16.f1) :: (125, .vptr [.int .i64 x11_16.f1, .bool x11_16.f2, .bool x11_16.f3]) :: (124, .vptr [.int .i64 x11_16.f0, .int .i64 x11_16.f1, .bool x11_16.f2, .bool x11_16.f3]) :: E26)
        let E29 : Env := [(136, .int .i64 y17_0), (135, .vec (x6_5).length 4 ((x6_5).flatMap e37)), (134, .bool x10_5.f2), (133, .ptr 0 4 2), (132, .bool false), (131, .bool false), (130, .bool false), (129, .int .i64 (fW .i64 (x11_16.f1 + (x2_1.1.length : Int)))), (128, .int .i64 (x2_1.1.length : Int)), (127, .vec (x2_1.1).length 3 ((x2_1.1).flatMap e47)), (126, .int .i64 x11_16.f1), (125, .vptr [.int .i64 x11_16.f1, .bool x11_16.f2, .bool x11_16.f3]), (124, .vptr [.int .i64 x11_16.f0, .int .i64 x11_16.f1, .bool x11_16.f2, .bool x11_16.f3]), (123, .int .i64 y17_0), (122, .vec (x6_5).length 4 ((x6_5).flatMap e37)), (121, .int .i64 x10_5.f1), (120, .ptr 0 4 1), (119, .bool false), (118, .bool false), (117, .int .i64 (fW .i64 (x11_4.f0 + (x2_1.1.length : Int)))), (116, .int .i64 (x2_1.1.length : Int)), (115, .vec (x2_1.1).length 3 ((x2_1.1).flatMap e47)), (114, .int .i64 x11_4.f0), (113, .vptr [.int .i64 x11_4.f0, .int .i64 x11_4.f1, .bool x11_4.f2, .bool x11_4.f3]), (112, .vptr [.int .i64 x11_4.f0, .int .i64 x11_4.f1, .bool x11_4.f2, .bool x11_4.f3]), (111, .int .i64 y17_0), (110, .vec (x6_5).length 4 ((x6_5).flatMap e37)), (109, .int .i64 x10_5.f0), (108, .ptr 0 4 0), (5, .vec (x2_1.1).length 3 ((x2_1.1).flatMap e47)), (11, .vec (x6_2).length 4 ((x6_2).flatMap e37)), (12, .vec (x6_5).length 4 ((x6_5).flatMap e37)), (13, .vec (x6_10).length 4 ((x6_10).flatMap e37)), (14, .int .i64 y17_0), (15, .ptr 0 4 0)]
        let E30 : Env := ((142, .bool (!(x10_5.f2 == x11_29.f2))) :: (141, .bool (!(x10_5.f2 == x11_29.f2))) :: (140, .bool (!(x10_5.f2 == x11_29.f2))) :: (139, .bool x11_29.f2) :: (138, .vptr [.bool x11_29.f2, .bool x11_29.f3]) :: (137, .vptr [.int .i64 x11_29.f0, .int .i64 x11_29.f1, .bool x11_29.f2, .bool x11_29.f3]) :: E29)
        let E32 : Env := [(145, .bool (decide (0 < y17_0))), (144, .bool (decide (0 < y17_0))), (143, .int .i64 y17_0), (142, .bool false), (141, .bool false), (140, .bool false), (139, .bool x11_29.f2), (138, .vptr [.bool x11_29.f2, .bool x11_29.f3]), (137, .vptr [.int .i64 x11_29.f0, .int .i64 x11_29.f1, .bool x11_29.f2, .bool x11_29.f3]), (136, .int .i64 y17_0), (135, .vec (x6_5).length 4 ((x6_5).flatMap e37)), (134, .bool x10_5.f2), (133, .ptr 0 4 2), (132, .bool false), (131, .bool false), (130, .bool false), (129, .int .i64 (fW .i64 (x11_16.f1 + (x2_1.1.length : Int)))), (128, .int .i64 (x2_1.1.length : Int)), (127, .vec (x2_1.1).length 3 ((x2_1.1).flatMap e47)), (126, .int .i64 x11_16.f1), (125, .vptr [.int .i64 x11_16.f1, .bool x11_16.f2, .bool x11_16.f3]), (124, .vptr [.int .i64 x11_16.f0, .int .i64 x11_16.f1, .bool x11_16.f2, .bool x11_16.f3]), (123, .int .i64 y17_0), (122, .vec (x6_5).length 4 ((x6_5).flatMap e37)), (121, .int .i64 x10_5.f1), (120, .ptr 0 4 1), (119, .bool false), (118, .bool false), (117, .int .i64 (fW .i64 (x11_4.f0 + (x2_1.1.length : Int)))), (116, .int .i64 (x2_1.1.length : Int)), (115, .vec (x2_1.1).length 3 ((x2_1.1).flatMap e47)), (114, .int .i64 x11_4.f0), (113, .vptr [.int .i64 x11_4.f0, .int .i64 x11_4.f1, .bool x11_4.f2, .bool x11_4.f3]), (112, .vptr [.int .i64 x11_4.f0, .int .i64 x11_4.f1, .bool x11_4.f2, .bool x11_4.f3]), (111, .int .i64 y17_0), (110, .vec (x6_5).length 4 ((x6_5).flatMap e37)), (109, .int .i64 x10_5.f0), (108, .ptr 0 4 0), (5, .vec (x2_1.1).length 3 ((x2_1.1).flatMap e47)), (11, .vec (x6_2).length 4 ((x6_2).flatMap e37)), (12, .vec (x6_5).length 4 ((x6_5).flatMap e37)), (13, .vec (x6_10).length 4 ((x6_10).flatMap e37)), (14, .int .i64 y17_0), (15, .ptr 0 4 0)]
        let E33 : Env := [(149, .int .i64 y17_0), (148, .vec (x6_5).length 4 ((x6_5).flatMap e37)), (147, .bool x10_5.f3), (146, .ptr 0 4 3), (145, .bool true), (144, .bool true), (143, .int .i64 y17_0), (142, .bool false), (141, .bool false), (140, .bool false), (139, .bool x11_29.f2), (138, .vptr [.bool x11_29.f2, .bool x11_29.f3]), (137, .vptr [.int .i64 x11_29.f0, .int .i64 x11_29.f1, .bool x11_29.f2, .bool x11_29.f3]), (136, .int .i64 y17_0), (135, .vec (x6_5).length 4 ((x6_5).flatMap e37)), (134, .bool x10_5.f2), (133, .ptr 0 4 2), (132, .bool false), (131, .bool false), (130, .bool false), (129, .int .i64 (fW .i64 (x11_16.f1 + (x2_1.1.length : Int)))), (128, .int .i64 (x2_1.1.length : Int)), (127, .vec (x2_1.1).length 3 ((x2_1.1).flatMap e47)), (126, .int .i64 x11_16.f1), (125, .vptr [.int .i64 x11_16.f1, .bool x11_16.f2, .bool x11_16.f3]), (124, .vptr [.int .i64 x11_16.f0, .int .i64 x11_16.f1, .bool x11_16.f2, .bool x11_16.f3]), (123, .int .i64 y17_0), (122, .vec (x6_5).length 4 ((x6_5).flatMap e37)), (121, .int .i64 x10_5.f1), (120, .ptr 0 4 1), (119, .bool false), (118, .bool false), (117, .int .i64 (fW .i64 (x11_4.f0 + (x2_1.1.length : Int)))), (116, .int .i64 (x2_1.1.length : Int)), (115, .vec (x2_1.1).length 3 ((x2_1.1).flatMap e47)), (114, .int .i64 x11_4.f0), (113, .vptr [.int .i64 x11_4.f0, .int .i64 x11_4.f1, .bool x11_4.f2, .bool x11_4.f3]), (112, .vptr [.int .i64 x11_4.f0, .int .i64 x11_4.f1, .bool x11_4.f2, .bool x11_4.f3]), (111, .int .i64 y17_0), (110, .vec (x6_5).length 4 ((x6_5).flatMap e37)), (109, .int .i64 x10_5.f0), (108, .ptr 0 4 0), (5, .vec (x2_1.1).length 3 ((x2_1.1).flatMap e47)), (11, .vec (x6_2).length 4 ((x6_2).flatMap e37)), (12, .vec (x6_5).length 4 ((x6_5).flatMap e37)), (13, .vec (x6_10).length 4 ((x6_10).flatMap e37)), (14, .int .i64 y17_0), (15, .ptr 0 4 0)]
        let E34 : Env := ((155, .bool (!(x10_5.f3 == x11_42.f3))) :: (154, .bool (!(x10_5.f3 == x11_42.f3))) :: (153, .bool (!(x10_5.f3 == x11_42.f3))) :: (152, .bool x11_42.f3) :: (151, .vptr [.bool x11_42.f3]) :: (150, .vptr [.int .i64 x11_42.f0, .int .i64 x11_42.f1, .bool x11_42.f2, .bool x11_42.f3]) :: E33)
        refine ok_draw (p' := nav [0] g8p28) (eE := E34) (H' := (mkH [⟨[.int .i64 x10_5.f0, .int .i64 x10_5.f1, .bool x10_5.f2, .bool x10_5.f3], 4, false⟩])) (hs := []) [(0, 0, 0), (1, 0, 0), (0, 0, 0), (0, 0, 0), (12, 0, 0), (28, 0, 0), (60, 0, 0), (0, 0, 0), (128, 0, 0), (508, 0, 0), (1023, 0, 0), (2047, 0, 0), (4095, 0, 0), (8191, 0, 0), (4095, 0, 0), (4095, 0, 0), (53247, 0, 0), (118783, 0, 0), (249855, 0, 0), (4095, 0, 0), (528383, 0, 0), (2084863, 0, 0), (4194303, 0, 0), (8388607, 0, 0), (16777215, 0, 0), (33554431, 0, 0), (67108863, 0, 0), (33554431, 0, 0), (33554431, 0, 0), (436207615, 0, 0), (973078527, 0, 0), (2046820351, 0, 0), (4294967295, 0, 0), (8589934591, 0, 0), (17179869183, 0, 0), (34359738367, 0, 0), (68719476735, 0, 0), (137438953471, 0, 0), (274877906943, 0, 0), (549755813887, 0, 0), (274877906943, 0, 0), (274877906943, 0, 0), (3573412790271, 0, 0), (7971459301375, 0, 0), (16767552323583, 0, 0), (35184372088831, 0, 0), (70368744177663, 0, 0), (140737488355327, 0, 0)] (by kernel_rfl) (by kernel_rfl) (by kernel_rfl) (opsD_run 4 (l' := (opsAt g8p28).toList.drop 4) (eE := E23) (H' := (mkH [⟨[.int .i64 x10_5.f0, .int .i64 x10_5.f1, .bool x10_5.f2, .bool x10_5.f3], 4, false⟩])) (hs := []) (by kernel_rfl) (opsD_chk (l' := (opsAt g8p28).toList.drop 5) (eE := ((112, .vptr [.int .i64 x11_4.f0, .int .i64 x11_4.f1, .bool x11_4.f2, .bool x11_4.f3]) :: E23)) (hs := []) (x := x11_4) (fun (x11_4 : S36) => (.vptr [.int .i64 x11_4.f0, .int .i64 x11_4.f1, .bool x11_4.f2, .bool x11_4.f3], (mkH [⟨[.int .i64 x10_5.f0, .int .i64 x10_5.f1, .bool x10_5.f2, .bool x10_5.f3], 4, false⟩]))) (vidxH (sz := 4) e37_len (by kernel_rfl)) hx11_4 (by kernel_rfl) (opsD_run 7 (l' := (opsAt g8p28).toList.drop 12) (eE := E24) (H' := (mkH [⟨[.int .i64 x10_5.f0, .int .i64 x10_5.f1, .bool x10_5.f2, .bool x10_5.f3], 4, false⟩])) (hs := []) (by kernel_rfl) (opsD_env (eE := [(119, .bool false), (118, .bool false), (117, .int .i64 (fW .i64 (x11_4.f0 + (x2_1.1.length : Int)))), (116, .int .i64 (x2_1.1.length : Int)), (115, .vec (x2_1.1).length 3 ((x2_1.1).flatMap e47)), (114, .int .i64 x11_4.f0), (113, .vptr [.int .i64 x11_4.f0, .int .i64 x11_4.f1, .bool x11_4.f2, .bool x11_4.f3]), (112, .vptr [.int .i64 x11_4.f0, .int .i64 x11_4.f1, .bool x11_4.f2, .bool x11_4.f3]), (111, .int .i64 y17_0), (110, .vec (x6_5).length 4 ((x6_5).flatMap e37)), (109, .int .i64 x10_5.f0), (108, .ptr 0 4 0), (5, .vec (x2_1.1).length 3 ((x2_1.1).flatMap e47)), (11, .vec (x6_2).length 4 ((x6_2).flatMap e37)), (12, .vec (x6_5).length 4 ((x6_5).flatMap e37)), (13, .vec (x6_10).length 4 ((x6_10).flatMap e37)), (14, .int .i64 y17_0), (15, .ptr 0 4 0)]) (congrArg (fun z : Bool => ([(119, .bool z), (118, .bool z), (117, .int .i64 (fW .i64 (x11_4.f0 + (x2_1.1.length : Int)))), (116, .int .i64 (x2_1.1.length : Int)), (115, .vec (x2_1.1).length 3 ((x2_1.1).flatMap e47)), (114, .int .i64 x11_4.f0), (113, .vptr [.int .i64 x11_4.f0, .int .i64 x11_4.f1, .bool x11_4.f2, .bool x11_4.f3]), (112, .vptr [.int .i64 x11_4.f0, .int .i64 x11_4.f1, .bool x11_4.f2, .bool x11_4.f3]), (111, .int .i64 y17_0), (110, .vec (x6_5).length 4 ((x6_5).flatMap e37)), (109, .int .i64 x10_5.f0), (108, .ptr 0 4 0), (5, .vec (x2_1.1).length 3 ((x2_1.1).flatMap e47)), (11, .vec (x6_2).length 4 ((x6_2).flatMap e37)), (12, .vec (x6_5).length 4 ((x6_5).flatMap e37)), (13, .vec (x6_10).length 4 ((x6_10).flatMap e37)), (14, .int .i64 y17_0), (15, .ptr 0 4 0)] : Env)) hb18) (opsD_run 4 (l' := (opsAt g8p28).toList.drop 16) (eE := E26) (H' := (mkH [⟨[.int .i64 x10_5.f0, .int .i64 x10_5.f1, .bool x10_5.f2, .bool x10_5.f3], 4, false⟩])) (hs := []) (by kernel_rfl) (opsD_chk (l' := (opsAt g8p28).toList.drop 17) (eE := ((124, .vptr [.int .i64 x11_16.f0, .int .i64 x11_16.f1, .bool x11_16.f2, .bool x11_16.f3]) :: E26)) (hs := []) (x := x11_16) (fun (x11_16 : S36) => (.vptr [.int .i64 x11_16.f0, .int .i64 x11_16.f1, .bool x11_16.f2, .bool x11_16.f3], (mkH [⟨[.int .i64 x10_5.f0, .int .i64 x10_5.f1, .bool x10_5.f2, .bool x10_5.f3], 4, false⟩]))) (vidxH (sz := 4) e37_len (by kernel_rfl)) hx11_16 (by kernel_rfl) (opsD_run 8 (l' := (opsAt g8p28).toList.drop 25) (eE := E27) (H' := (mkH [⟨[.int .i64 x10_5.f0, .int .i64 x10_5.f1, .bool x10_5.f2, .bool x10_5.f3], 4, false⟩])) (hs := []) (by kernel_rfl) (opsD_env (eE := [(132, .bool false), (131, .bool false), (130, .bool false), (129, .int .i64 (fW .i64 (x11_16.f1 + (x2_1.1.length : Int)))), (128, .int .i64 (x2_1.1.length : Int)), (127, .vec (x2_1.1).length 3 ((x2_1.1).flatMap e47)), (126, .int .i64 x11_16.f1), (125, .vptr [.int .i64 x11_16.f1, .bool x11_16.f2, .bool x11_16.f3]), (124, .vptr [.int .i64 x11_16.f0, .int .i64 x11_16.f1, .bool x11_16.f2, .bool x11_16.f3]), (123, .int .i64 y17_0), (122, .vec (x6_5).length 4 ((x6_5).flatMap e37)), (121, .int .i64 x10_5.f1), (120, .ptr 0 4 1), (119, .bool false), (118, .bool false), (117, .int .i64 (fW .i64 (x11_4.f0 + (x2_1.1.length : Int)))), (116, .int .i64 (x2_1.1.length : Int)), (115, .vec (x2_1.1).length 3 ((x2_1.1).flatMap e47)), (114, .int .i64 x11_4.f0), (113, .vptr [.int .i64 x11_4.f0, .int .i64 x11_4.f1, .bool x11_4.f2, .bool x11_4.f3]), (112, .vptr [.int .i64 x11_4.f0, .int .i64 x11_4.f1, .bool x11_4.f2, .bool x11_4.f3]), (111, .int .i64 y17_0), (110, .vec (x6_5).length 4 ((x6_5).flatMap e37)), (109, .int .i64 x10_5.f0), (108, .ptr 0 4 0), (5, .vec (x2_1.1).length 3 ((x2_1.1).flatMap e47)), (11, .vec (x6_2).length 4 ((x6_2).flatMap e37)), (12, .vec (x6_5).length 4 ((x6_5).flatMap e37)), (13, .vec (x6_10).length 4 ((x6_10).flatMap e37)), (14, .int .i64 y17_0), (15, .ptr 0 4 0)]) (congrArg (fun z : Bool => ([(132, .bool z), (131, .bool z), (130, .bool z), (129, .int .i64 (fW .i64 (x11_16.f1 + (x2_1.1.length : Int)))), (128, .int .i64 (x2_1.1.length : Int)), (127, .vec (x2_1.1).length 3 ((x2_1.1).flatMap e47)), (126, .int .i64 x11_16.f1), (125, .vptr [.int .i64 x11_16.f1, .bool x11_16.f2, .bool x11_16.f3]), (124, .vptr [.int .i64 x11_16.f0, .int .i64 x11_16.f1, .bool x11_16.f2, .bool x11_16.f3]), (123, .int .i64 y17_0), (122, .vec (x6_5).length 4 ((x6_5).flatMap e37)), (121, .int .i64 x10_5.f1), (120, .ptr 0 4 1), (119, .bool false), (118, .bool false), (117, .int .i64 (fW .i64 (x11_4.f0 + (x2_1.1.length : Int)))), (116, .int .i64 (x2_1.1.length : Int)), (115, .vec (x2_1.1).length 3 ((x2_1.1).flatMap e47)), (114, .int .i64 x11_4.f0), (113, .vptr [.int .i64 x11_4.f0, .int .i64 x11_4.f1, .bool x11_4.f2, .bool x11_4.f3]), (112, .vptr [.int .i64 x11_4.f0, .int .i64 x11_4.f1, .bool x11_4.f2, .bool x11_4.f3]), (111, .int .i64 y17_0), (110, .vec (x6_5).length 4 ((x6_5).flatMap e37)), (109, .int .i64 x10_5.f0), (108, .ptr 0 4 0), (5, .vec (x2_1.1).length 3 ((x2_1.1).flatMap e47)), (11, .vec (x6_2).length 4 ((x6_2).flatMap e37)), (12, .vec (x6_5).length 4 ((x6_5).flatMap e37)), (13, .vec (x6_10).length 4 ((x6_10).flatMap e37)), (14, .int .i64 y17_0), (15, .ptr 0 4 0)] : Env)) hb19) (opsD_run 4 (l' := (opsAt g8p28).toList.drop 29) (eE := E29) (H' := (mkH [⟨[.int .i64 x10_5.f0, .int .i64 x10_5.f1, .bool x10_5.f2, .bool x10_5.f3], 4, false⟩])) (hs := []) (by kernel_rfl) (opsD_chk (l' := (opsAt g8p28).toList.drop 30) (eE := ((137, .vptr [.int .i64 x11_29.f0, .int .i64 x11_29.f1, .bool x11_29.f2, .bool x11_29.f3]) :: E29)) (hs := []) (x := x11_29) (fun (x11_29 : S36) => (.vptr [.int .i64 x11_29.f0, .int .i64 x11_29.f1, .bool x11_29.f2, .bool x11_29.f3], (mkH [⟨[.int .i64 x10_5.f0, .int .i64 x10_5.f1, .bool x10_5.f2, .bool x10_5.f3], 4, false⟩]))) (vidxH (sz := 4) e37_len (by kernel_rfl)) hx11_29 (by kernel_rfl) (opsD_run 5 (l' := (opsAt g8p28).toList.drop 35) (eE := E30) (H' := (mkH [⟨[.int .i64 x10_5.f0, .int .i64 x10_5.f1, .bool x10_5.f2, .bool x10_5.f3], 4, false⟩])) (hs := []) (by kernel_rfl) (opsD_env (eE := [(142, .bool false), (141, .bool false), (140, .bool false), (139, .bool x11_29.f2), (138, .vptr [.bool x11_29.f2, .bool x11_29.f3]), (137, .vptr [.int .i64 x11_29.f0, .int .i64 x11_29.f1, .bool x11_29.f2, .bool x11_29.f3]), (136, .int .i64 y17_0), (135, .vec (x6_5).length 4 ((x6_5).flatMap e37)), (134, .bool x10_5.f2), (133, .ptr 0 4 2), (132, .bool false), (131, .bool false), (130, .bool false), (129, .int .i64 (fW .i64 (x11_16.f1 + (x2_1.1.length : Int)))), (128, .int .i64 (x2_1.1.length : Int)), (127, .vec (x2_1.1).length 3 ((x2_1.1).flatMap e47)), (126, .int .i64 x11_16.f1), (125, .vptr [.int .i64 x11_16.f1, .bool x11_16.f2, .bool x11_16.f3]), (124, .vptr [.int .i64 x11_16.f0, .int .i64 x11_16.f1, .bool x11_16.f2, .bool x11_16.f3]), (123, .int .i64 y17_0), (122, .vec (x6_5).length 4 ((x6_5).flatMap e37)), (121, .int .i64 x10_5.f1), (120, .ptr 0 4 1), (119, .bool false), (118, .bool false), (117, .int .i64 (fW .i64 (x11_4.f0 + (x2_1.1.length : Int)))), (116, .int .i64 (x2_1.1.length : Int)), (115, .vec (x2_1.1).length 3 ((x2_1.1).flatMap e47)), (114, .int .i64 x11_4.f0), (113, .vptr [.int .i64 x11_4.f0, .int .i64 x11_4.f1, .bool x11_4.f2, .bool x11_4.f3]), (112, .vptr [.int .i64 x11_4.f0, .int .i64 x11_4.f1, .bool x11_4.f2, .bool x11_4.f3]), (111, .int .i64 y17_0), (110, .vec (x6_5).length 4 ((x6_5).flatMap e37)), (109, .int .i64 x10_5.f0), (108, .ptr 0 4 0), (5, .vec (x2_1.1).length 3 ((x2_1.1).flatMap e47)), (11, .vec (x6_2).length 4 ((x6_2).flatMap e37)), (12, .vec (x6_5).length 4 ((x6_5).flatMap e37)), (13, .vec (x6_10).length 4 ((x6_10).flatMap e37)), (14, .int .i64 y17_0), (15, .ptr 0 4 0)]) (congrArg (fun z : Bool => ([(142, .bool z), (141, .bool z), (140, .bool z), (139, .bool x11_29.f2), (138, .vptr [.bool x11_29.f2, .bool x11_29.f3]), (137, .vptr [.int .i64 x11_29.f0, .int .i64 x11_29.f1, .bool x11_29.f2, .bool x11_29.f3]), (136, .int .i64 y17_0), (135, .vec (x6_5).length 4 ((x6_5).flatMap e37)), (134, .bool x10_5.f2), (133, .ptr 0 4 2), (132, .bool false), (131, .bool false), (130, .bool false), (129, .int .i64 (fW .i64 (x11_16.f1 + (x2_1.1.length : Int)))), (128, .int .i64 (x2_1.1.length : Int)), (127, .vec (x2_1.1).length 3 ((x2_1.1).flatMap e47)), (126, .int .i64 x11_16.f1), (125, .vptr [.int .i64 x11_16.f1, .bool x11_16.f2, .bool x11_16.f3]), (124, .vptr [.int .i64 x11_16.f0, .int .i64 x11_16.f1, .bool x11_16.f2, .bool x11_16.f3]), (123, .int .i64 y17_0), (122, .vec (x6_5).length 4 ((x6_5).flatMap e37)), (121, .int .i64 x10_5.f1), (120, .ptr 0 4 1), (119, .bool false), (118, .bool false), (117, .int .i64 (fW .i64 (x11_4.f0 + (x2_1.1.length : Int)))), (116, .int .i64 (x2_1.1.length : Int)), (115, .vec (x2_1.1).length 3 ((x2_1.1).flatMap e47)), (114, .int .i64 x11_4.f0), (113, .vptr [.int .i64 x11_4.f0, .int .i64 x11_4.f1, .bool x11_4.f2, .bool x11_4.f3]), (112, .vptr [.int .i64 x11_4.f0, .int .i64 x11_4.f1, .bool x11_4.f2, .bool x11_4.f3]), (111, .int .i64 y17_0), (110, .vec (x6_5).length 4 ((x6_5).flatMap e37)), (109, .int .i64 x10_5.f0), (108, .ptr 0 4 0), (5, .vec (x2_1.1).length 3 ((x2_1.1).flatMap e47)), (11, .vec (x6_2).length 4 ((x6_2).flatMap e37)), (12, .vec (x6_5).length 4 ((x6_5).flatMap e37)), (13, .vec (x6_10).length 4 ((x6_10).flatMap e37)), (14, .int .i64 y17_0), (15, .ptr 0 4 0)] : Env)) hb20) (opsD_run 3 (l' := (opsAt g8p28).toList.drop 38) (eE := E32) (H' := (mkH [⟨[.int .i64 x10_5.f0, .int .i64 x10_5.f1, .bool x10_5.f2, .bool x10_5.f3], 4, false⟩])) (hs := []) (by kernel_rfl) (opsD_env (eE := [(145, .bool true), (144, .bool true), (143, .int .i64 y17_0), (142, .bool false), (141, .bool false), (140, .bool false), (139, .bool x11_29.f2), (138, .vptr [.bool x11_29.f2, .bool x11_29.f3]), (137, .vptr [.int .i64 x11_29.f0, .int .i64 x11_29.f1, .bool x11_29.f2, .bool x11_29.f3]), (136, .int .i64 y17_0), (135, .vec (x6_5).length 4 ((x6_5).flatMap e37)), (134, .bool x10_5.f2), (133, .ptr 0 4 2), (132, .bool false), (131, .bool false), (130, .bool false), (129, .int .i64 (fW .i64 (x11_16.f1 + (x2_1.1.length : Int)))), (128, .int .i64 (x2_1.1.length : Int)), (127, .vec (x2_1.1).length 3 ((x2_1.1).flatMap e47)), (126, .int .i64 x11_16.f1), (125, .vptr [.int .i64 x11_16.f1, .bool x11_16.f2, .bool x11_16.f3]), (124, .vptr [.int .i64 x11_16.f0, .int .i64 x11_16.f1, .bool x11_16.f2, .bool x11_16.f3]), (123, .int .i64 y17_0), (122, .vec (x6_5).length 4 ((x6_5).flatMap e37)), (121, .int .i64 x10_5.f1), (120, .ptr 0 4 1), (119, .bool false), (118, .bool false), (117, .int .i64 (fW .i64 (x11_4.f0 + (x2_1.1.length : Int)))), (116, .int .i64 (x2_1.1.length : Int)), (115, .vec (x2_1.1).length 3 ((x2_1.1).flatMap e47)), (114, .int .i64 x11_4.f0), (113, .vptr [.int .i64 x11_4.f0, .int .i64 x11_4.f1, .bool x11_4.f2, .bool x11_4.f3]), (112, .vptr [.int .i64 x11_4.f0, .int .i64 x11_4.f1, .bool x11_4.f2, .bool x11_4.f3]), (111, .int .i64 y17_0), (110, .vec (x6_5).length 4 ((x6_5).flatMap e37)), (109, .int .i64 x10_5.f0), (108, .ptr 0 4 0), (5, .vec (x2_1.1).length 3 ((x2_1.1).flatMap e47)), (11, .vec (x6_2).length 4 ((x6_2).flatMap e37)), (12, .vec (x6_5).length 4 ((x6_5).flatMap e37)), (13, .vec (x6_10).length 4 ((x6_10).flatMap e37)), (14, .int .i64 y17_0), (15, .ptr 0 4 0)]) (congrArg (fun z : Bool => ([(145, .bool z), (144, .bool z), (143, .int .i64 y17_0), (142, .bool false), (141, .bool false), (140, .bool false), (139, .bool x11_29.f2), (138, .vptr [.bool x11_29.f2, .bool x11_29.f3]), (137, .vptr [.int .i64 x11_29.f0, .int .i64 x11_29.f1, .bool x11_29.f2, .bool x11_29.f3]), (136, .int .i64 y17_0), (135, .vec (x6_5).length 4 ((x6_5).flatMap e37)), (134, .bool x10_5.f2), (133, .ptr 0 4 2), (132, .bool false), (131, .bool false), (130, .bool false), (129, .int .i64 (fW .i64 (x11_16.f1 + (x2_1.1.length : Int)))), (128, .int .i64 (x2_1.1.length : Int)), (127, .vec (x2_1.1).length 3 ((x2_1.1).flatMap e47)), (126, .int .i64 x11_16.f1), (125, .vptr [.int .i64 x11_16.f1, .bool x11_16.f2, .bool x11_16.f3]), (124, .vptr [.int .i64 x11_16.f0, .int .i64 x11_16.f1, .bool x11_16.f2, .bool x11_16.f3]), (123, .int .i64 y17_0), (122, .vec (x6_5).length 4 ((x6_5).flatMap e37)), (121, .int .i64 x10_5.f1), (120, .ptr 0 4 1), (119, .bool false), (118, .bool false), (117, .int .i64 (fW .i64 (x11_4.f0 + (x2_1.1.length : Int)))), (116, .int .i64 (x2_1.1.length : Int)), (115, .vec (x2_1.1).length 3 ((x2_1.1).flatMap e47)), (114, .int .i64 x11_4.f0), (113, .vptr [.int .i64 x11_4.f0, .int .i64 x11_4.f1, .bool x11_4.f2, .bool x11_4.f3]), (112, .vptr [.int .i64 x11_4.f0, .int .i64 x11_4.f1, .bool x11_4.f2, .bool x11_4.f3]), (111, .int .i64 y17_0), (110, .vec (x6_5).length 4 ((x6_5).flatMap e37)), (109, .int .i64 x10_5.f0), (108, .ptr 0 4 0), (5, .vec (x2_1.1).length 3 ((x2_1.1).flatMap e47)), (11, .vec (x6_2).length 4 ((x6_2).flatMap e37)), (12, .vec (x6_5).length 4 ((x6_5).flatMap e37)), (13, .vec (x6_10).length 4 ((x6_10).flatMap e37)), (14, .int .i64 y17_0), (15, .ptr 0 4 0)] : Env)) hb21) (opsD_run 4 (l' := (opsAt g8p28).toList.drop 42) (eE := E33) (H' := (mkH [⟨[.int .i64 x10_5.f0, .int .i64 x10_5.f1, .bool x10_5.f2, .bool x10_5.f3], 4, false⟩])) (hs := []) (by kernel_rfl) (opsD_chk (l' := (opsAt g8p28).toList.drop 43) (eE := ((150, .vptr [.int .i64 x11_42.f0, .int .i64 x11_42.f1, .bool x11_42.f2, .bool x11_42.f3]) :: E33)) (hs := []) (x := x11_42) (fun (x11_42 : S36) => (.vptr [.int .i64 x11_42.f0, .int .i64 x11_42.f1, .bool x11_42.f2, .bool x11_42.f3], (mkH [⟨[.int .i64 x10_5.f0, .int .i64 x10_5.f1, .bool x10_5.f2, .bool x10_5.f3], 4, false⟩]))) (vidxH (sz := 4) e37_len (by kernel_rfl)) hx11_42 (by kernel_rfl) (opsD_run 5 (l' := (opsAt g8p28).toList.drop 48) (eE := E34) (H' := (mkH [⟨[.int .i64 x10_5.f0, .int .i64 x10_5.f1, .bool x10_5.f2, .bool x10_5.f3], 4, false⟩])) (hs := []) (by kernel_rfl) (.nil)))))))))))))))))) (by kernel_rfl) (by kernel_rfl) (by kernel_rfl) ?_
        refine oK [5, 11, 12, 13, 14, 155] (eE := [(5, .vec (x2_1.1).length 3 ((x2_1.1).flatMap e47)), (11, .vec (x6_2).length 4 ((x6_2).flatMap e37)), (12, .vec (x6_5).length 4 ((x6_5).flatMap e37)), (13, .vec (x6_10).length 4 ((x6_10).flatMap e37)), (14, .int .i64 y17_0), (155, .bool (!(x10_5.f3 == x11_42.f3)))]) (by kernel_rfl) ?_
        refine ok_cut [] [⟨[.int .i64 x10_5.f0, .int .i64 x10_5.f1, .bool x10_5.f2, .bool x10_5.f3], 4, false⟩] (by kernel_rfl) rfl (by kernel_rfl) trivial ?_
        exact hj18 (!(x10_5.f3 == x11_42.f3), y17_0)
       ·let E23 : Env := [(111, .int .i64 y17_0), (110, .vec (x6_5).length 4 ((x6_5).flatMap e37)), (109, .int .i64 x10_5.f0), (108, .ptr 0 4 0), (5, .vec (x2_1.1).length 3 ((x2_1.1).flatMap e47)), (11, .vec (x6_2).length 4 ((x6_2).flatMap e37)), (12, .vec (x6_5).length 4 ((x6_5).flatMap e37)), (13, .vec (x6_10).length 4 ((x6_10).flatMap e37)), (14, .int .i64 y17_0), (15, .ptr 0 4 0)]
        let E24 : Env := ((119, .bool (!decide (x10_5.f0 = fW .i64 (x11_4.f0 + (x2_1.1.length : Int))))) :: (118, .bool (!decide (x10_5.f0 = fW .i64 (x11_4.f0 + (x2_1.1.length : Int))))) :: (117, .int .i64 (fW .i64 (x11_4.f0 + (x2_1.1.length : Int)))) :: (116, .int .i64 (x2_1.1.length : Int)) :: (115, .vec (x2_1.1).length 3 ((x2_1.1).flatMap e47)) :: (114, .int .i64 x11_4.f0) :: (113, .vptr [.int .i64 x11_4.f0, .int .i64 x11_4.f1, .bool x11_4.f2, .bool x11_4.f3]) :: (112, .vptr [.int .i64 x11_4.f0, .int .i64 x11_4.f1, .bool x11_4.f2, .bool x11_4.f3]) :: E23)
        let E26 : Env := [(123, .int .i64 y17_0), (122, .vec (x6_5).length 4 ((x6_5).flatMap e37)), (121, .int .i64 x10_5.f1), (120, .ptr 0 4 1), (119, .bool false), (118, .bool false), (117, .int .i64 (fW .i64 (x11_4.f0 + (x2_1.1.length : Int)))), (116, .int .i64 (x2_1.1.length : Int)), (115, .vec (x2_1.1).length 3 ((x2_1.1).flatMap e47)), (114, .int .i64 x11_4.f0), (113, .vptr [.int .i64 x11_4.f0, .int .i64 x11_4.f1, .bool x11_4.f2, .bool x11_4.f3]), (112, .vptr [.int .i64 x11_4.f0, .int .i64 x11_4.f1, .bool x11_4.f2, .bool x11_4.f3]), (111, .int .i64 y17_0), (110, .vec (x6_5).length 4 ((x6_5).flatMap e37)), (109, .int .i64 x10_5.f0), (108, .ptr 0 4 0), (5, .vec (x2_1.1).length 3 ((x2_1.1).flatMap e47)), (11, .vec (x6_2).length 4 ((x6_2).flatMap e37)), (12, .vec (x6_5).length 4 ((x6_5).flatMap e37)), (13, .vec (x6_10).length 4 ((x6_10).flatMap e37)), (14, .int .i64 y17_0), (15, .ptr 0 4 0)]
        let E27 : Env := ((132, .bool (!decide (x10_5.f1 = fW .i64 (x11_16.f1 + (x2_1.1.length : Int))))) :: (131, .bool (!decide (x10_5.f1 = fW .i64 (x11_16.f1 + (x2_1.1.length : Int))))) :: (130, .bool (!decide (x10_5.f1 = fW .i64 (x11_16.f1 + (x2_1.1.length : Int))))) :: (129, .int .i64 (fW .i64 (x11_16.f1 + (x2_1.1.length : Int)))) :: (128, .int .i64 (x2_1.1.length : Int)) :: (127, .vec (x2_1.1).length 3 ((x2_1.1).flatMap e47)) :: (126, .int .i64 x11_16.f1) :: (125, .vptr [.int .i64 x11_16.f1, .bool x11_16.f2, .bool x11_16.f3]) :: (124, .vptr [.int .i64 x11_16.f0, .int .i64 x11_16.f1, .bool x11_16.f2, .bool x11_16.f3]) :: E26)
        let E29 : Env := [(136, .int .i64 y17_0), (135, .vec (x6_5).length 4 ((x6_5).flatMap e37)), (134, .bool x10_5.f2), (133, .ptr 0 4 2), (132, .bool false), (131, .bool false), (130, .bool false), (129, .int .i64 (fW .i64 (x11_16.f1 + (x2_1.1.length : Int)))), (128, .int .i64 (x2_1.1.length : Int)), (127, .vec (x2_1.1).length 3 ((x2_1.1).flatMap e47)), (126, .int .i64 x11_16.f1), (125, .vptr [.int .i64 x11_16.f1, .bool x11_16.f2, .bool x11_16.f3]), (124, .vptr [.int .i64 x11_16.f0, .int .i64 x11_16.f1, .bool x11_16.f2, .bool x11_16.f3]), (123, .int .i64 y17_0), (122, .vec (x6_5).length 4 ((x6_5).flatMap e37)), (121, .int .i64 x10_5.f1), (120, .ptr 0 4 1), (119, .bool false), (118, .bool false), (117, .int .i64 (fW .i64 (x11_4.f0 + (x2_1.1.length : Int)))), (116, .int .i64 (x2_1.1.length : Int)), (115, .vec (x2_1.1).length 3 ((x2_1.1).flatMap e47)), (114, .int .i64 x11_4.f0), (113, .vptr [.int .i64 x11_4.f0, .int .i64 x11_4.f1, .bool x11_4.f2, .bool x11_4.f3]), (112, .vptr [.int .i64 x11_4.f0, .int .i64 x11_4.f1, .bool x11_4.f2, .bool x11_4.f3]), (111, .int .i64 y17_0), (110, .vec (x6_5).length 4 ((x6_5).flatMap e37)), (109, .int .i64 x10_5.f0), (108, .ptr 0 4 0), (5, .vec (x2_1.1).length 3 ((x2_1.1).flatMap e47)), (11, .vec (x6_2).length 4 ((x6_2).flatMap e37)), (12, .vec (x6_5).length 4 ((x6_5).flatMap e37)), (13, .vec (x6_10).length 4 ((x6_10).flatMap e37)), (14, .int .i64 y17_0), (15, .ptr 0 4 0)]
        let E30 : Env := ((142, .bool (!(x10_5.f2 == x11_29.f2))) :: (141, .bool (!(x10_5.f2 == x11_29.f2))) :: (140, .bool (!(x10_5.f2 == x11_29.f2))) :: (139, .bool x11_29.f2) :: (138, .vptr [.bool x11_29.f2, .bool x11_29.f3]) :: (137, .vptr [.int .i64 x11_29.f0, .int .i64 x11_29.f1, .bool x11_29.f2, .bool x11_29.f3]) :: E29)
        let E32 : Env := [(145, .bool (decide (0 < y17_0))), (144, .bool (decide (0 < y17_0))), (143, .int .i64 y17_0), (142, .bool false), (141, .bool false), (140, .bool false), (139, .bool x11_29.f2), (138, .vptr [.bool x11_29.f2, .bool x11_29.f3]), (137, .vptr [.int .i64 x11_29.f0, .int .i64 x11_29.f1, .bool x11_29.f2, .bool x11_29.f3]), (136, .int .i64 y17_0), (135, .vec (x6_5).length 4 ((x6_5).flatMap e37)), (134, .bool x10_5.f2), (133, .ptr 0 4 2), (132, .bool false), (131, .bool false), (130, .bool false), (129, .int .i64 (fW .i64 (x11_16.f1 + (x2_1.1.length : Int)))), (128, .int .i64 (x2_1.1.length : Int)), (127, .vec (x2_1.1).length 3 ((x2_1.1).flatMap e47)), (126, .int .i64 x11_16.f1), (125, .vptr [.int .i64 x11_16.f1, .bool x11_16.f2, .bool x11_16.f3]), (124, .vptr [.int .i64 x11_16.f0, .int .i64 x11_16.f1, .bool x11_16.f2, .bool x11_16.f3]), (123, .int .i64 y17_0), (122, .vec (x6_5).length 4 ((x6_5).flatMap e37)), (121, .int .i64 x10_5.f1), (120, .ptr 0 4 1), (119, .bool false), (118, .bool false), (117, .int .i64 (fW .i64 (x11_4.f0 + (x2_1.1.length : Int)))), (116, .int .i64 (x2_1.1.length : Int)), (115, .vec (x2_1.1).length 3 ((x2_1.1).flatMap e47)), (114, .int .i64 x11_4.f0), (113, .vptr [.int .i64 x11_4.f0, .int .i64 x11_4.f1, .bool x11_4.f2, .bool x11_4.f3]), (112, .vptr [.int .i64 x11_4.f0, .int .i64 x11_4.f1, .bool x11_4.f2, .bool x11_4.f3]), (111, .int .i64 y17_0), (110, .vec (x6_5).length 4 ((x6_5).flatMap e37)), (109, .int .i64 x10_5.f0), (108, .ptr 0 4 0), (5, .vec (x2_1.1).length 3 ((x2_1.1).flatMap e47)), (11, .vec (x6_2).length 4 ((x6_2).flatMap e37)), (12, .vec (x6_5).length 4 ((x6_5).flatMap e37)), (13, .vec (x6_10).length 4 ((x6_10).flatMap e37)), (14, .int .i64 y17_0), (15, .ptr 0 4 0)]
        let E35 : Env := [(155, .bool false), (154, .bool false), (153, .tuple []), (152, .tuple []), (151, .tuple []), (150, .tuple []), (149, .tuple []), (148, .tuple []), (147, .tuple []), (146, .tuple []), (145, .bool false), (144, .bool false), (143, .int .i64 y17_0), (142, .bool false), (141, .bool false), (140, .bool false), (139, .bool x11_29.f2), (138, .vptr [.bool x11_29.f2, .bool x11_29.f3]), (137, .vptr [.int .i64 x11_29.f0, .int .i64 x11_29.f1, .bool x11_29.f2, .bool x11_29.f3]), (136, .int .i64 y17_0), (135, .vec (x6_5).length 4 ((x6_5).flatMap e37)), (134, .bool x10_5.f2), (133, .ptr 0 4 2), (132, .bool false), (131, .bool false), (130, .bool false), (129, .int .i64 (fW .i64 (x11_16.f1 + (x2_1.1.length : Int)))), (128, .int .i64 (x2_1.1.length : Int)), (127, .vec (x2_1.1).length 3 ((x2_1.1).flatMap e47)), (126, .int .i64 x11_16.f1), (125, .vptr [.int .i64 x11_16.f1, .bool x11_16.f2, .bool x11_16.f3]), (124, .vptr [.int .i64 x11_16.f0, .int .i64 x11_16.f1, .bool x11_16.f2, .bool x11_16.f3]), (123, .int .i64 y17_0), (122, .vec (x6_5).length 4 ((x6_5).flatMap e37)), (121, .int .i64 x10_5.f1), (120, .ptr 0 4 1), (119, .bool false), (118, .bool false), (117, .int .i64 (fW .i64 (x11_4.f0 + (x2_1.1.length : Int)))), (116, .int .i64 (x2_1.1.length : Int)), (115, .vec (x2_1.1).length 3 ((x2_1.1).flatMap e47)), (114, .int .i64 x11_4.f0), (113, .vptr [.int .i64 x11_4.f0, .int .i64 x11_4.f1, .bool x11_4.f2, .bool x11_4.f3]), (112, .vptr [.int .i64 x11_4.f0, .int .i64 x11_4.f1, .bool x11_4.f2, .bool x11_4.f3]), (111, .int .i64 y17_0), (110, .vec (x6_5).length 4 ((x6_5).flatMap e37)), (109, .int .i64 x10_5.f0), (108, .ptr 0 4 0), (5, .vec (x2_1.1).length 3 ((x2_1.1).flatMap e47)), (11, .vec (x6_2).length 4 ((x6_2).flatMap e37)), (12, .vec (x6_5).length 4 ((x6_5).flatMap e37)), (13, .vec (x6_10).length 4 ((x6_10).flatMap e37)), (14, .int .i64 y17_0), (15, .ptr 0 4 0)]
        refine ok_draw (p' := nav [0] g8p28) (eE := E35) (H' := (mkH [⟨[.int .i64 x10_5.f0, .int .i64 x10_5.f1, .bool x10_5.f2, .bool x10_5.f3], 4, false⟩])) (hs := []) [(0, 0, 0), (1, 0, 0), (0, 0, 0), (0, 0, 0), (12, 0, 0), (28, 0, 0), (60, 0, 0), (0, 0, 0), (128, 0, 0), (508, 0, 0), (1023, 0, 0), (2047, 0, 0), (4095, 0, 0), (8191, 0, 0), (4095, 0, 0), (4095, 0, 0), (53247, 0, 0), (118783, 0, 0), (249855, 0, 0), (4095, 0, 0), (528383, 0, 0), (2084863, 0, 0), (4194303, 0, 0), (8388607, 0, 0), (16777215, 0, 0), (33554431, 0, 0), (67108863, 0, 0), (33554431, 0, 0), (33554431, 0, 0), (436207615, 0, 0), (973078527, 0, 0), (2046820351, 0, 0), (4294967295, 0, 0), (8589934591, 0, 0), (17179869183, 0, 0), (34359738367, 0, 0), (68719476735, 0, 0), (137438953471, 0, 0), (274877906943, 0, 0), (549755813887, 0, 0), (274877906943, 0, 0), (274877906943, 0, 0), (3573412790271, 0, 0), (7971459301375, 0, 0), (16767552323583, 0, 0), (35184372088831, 0, 0), (70368744177663, 0, 0), (140737488355327, 0, 0)] (by kernel_rfl) (by kernel_rfl) (by kernel_rfl) (opsD_run 4 (l' := (opsAt g8p28).toList.drop 4) (eE := E23) (H' := (mkH [⟨[.int .i64 x10_5.f0, .int .i64 x10_5.f1, .bool x10_5.f2, .bool x10_5.f3], 4, false⟩])) (hs := []) (by kernel_rfl) (opsD_chk (l' := (opsAt g8p28).toList.drop 5) (eE := ((112, .vptr [.int .i64 x11_4.f0, .int .i64 x11_4.f1, .bool x11_4.f2, .bool x11_4.f3]) :: E23)) (hs := []) (x := x11_4) (fun (x11_4 : S36) => (.vptr [.int .i64 x11_4.f0, .int .i64 x11_4.f1, .bool x11_4.f2, .bool x11_4.f3], (mkH [⟨[.int .i64 x10_5.f0, .int .i64 x10_5.f1, .bool x10_5.f2, .bool x10_5.f3], 4, false⟩]))) (vidxH (sz := 4) e37_len (by kernel_rfl)) hx11_4 (by kernel_rfl) (opsD_run 7 (l' := (opsAt g8p28).toList.drop 12) (eE := E24) (H' := (mkH [⟨[.int .i64 x10_5.f0, .int .i64 x10_5.f1, .bool x10_5.f2, .bool x10_5.f3], 4, false⟩])) (hs := []) (by kernel_rfl) (opsD_env (eE := [(119, .bool false), (118, .bool false), (117, .int .i64 (fW .i64 (x11_4.f0 + (x2_1.1.length : Int)))), (116, .int .i64 (x2_1.1.length : Int)), (115, .vec (x2_1.1).length 3 ((x2_1.1).flatMap e47)), (114, .int .i64 x11_4.f0), (113, .vptr [.int .i64 x11_4.f0, .int .i64 x11_4.f1, .bool x11_4.f2, .bool x11_4.f3]), (112, .vptr [.int .i64 x11_4.f0, .int .i64 x11_4.f1, .bool x11_4.f2, .bool x11_4.f3]), (111, .int .i64 y17_0), (110, .vec (x6_5).length 4 ((x6_5).flatMap e37)), (109, .int .i64 x10_5.f0), (108, .ptr 0 4 0), (5, .vec (x2_1.1).length 3 ((x2_1.1).flatMap e47)), (11, .vec (x6_2).length 4 ((x6_2).flatMap e37)), (12, .vec (x6_5).length 4 ((x6_5).flatMap e37)), (13, .vec (x6_10).length 4 ((x6_10).flatMap e37)), (14, .int .i64 y17_0), (15, .ptr 0 4 0)]) (congrArg (fun z : Bool => ([(119, .bool z), (118, .bool z), (117, .int .i64 (fW .i64 (x11_4.f0 + (x2_1.1.length : Int)))), (116, .int .i64 (x2_1.1.length : Int)), (115, .vec (x2_1.1).length 3 ((x2_1.1).flatMap e47)), (114, .int .i64 x11_4.f0), (113, .vptr [.int .i64 x11_4.f0, .int .i64 x11_4.f1, .bool x11_4.f2, .bool x11_4.f3]), (112, .vptr [.int .i64 x11_4.f0, .int .i64 x11_4.f1, .bool x11_4.f2, .bool x11_4.f3]), (111, .int .i64 y17_0), (110, .vec (x6_5).length 4 ((x6_5).flatMap e37)), (109, .int .i64 x10_5.f0), (108, .ptr 0 4 0), (5, .vec (x2_1.1).length 3 ((x2_1.1).flatMap e47)), (11, .vec (x6_2).length 4 ((x6_2).flatMap e37)), (12, .vec (x6_5).length 4 ((x6_5).flatMap e37)), (13, .vec (x6_10).length 4 ((x6_10).flatMap e37)), (14, .int .i64 y17_0), (15, .ptr 0 4 0)] : Env)) hb18) (opsD_run 4 (l' := (opsAt g8p28).toList.drop 16) (eE := E26) (H' := (mkH [⟨[.int .i64 x10_5.f0, .int .i64 x10_5.f1, .bool x10_5.f2, .bool x10_5.f3], 4, false⟩])) (hs := []) (by kernel_rfl) (opsD_chk (l' := (opsAt g8p28).toList.drop 17) (eE := ((124, .vptr [.int .i64 x11_16.f0, .int .i64 x11_16.f1, .bool x11_16.f2, .bool x11_16.f3]) :: E26)) (hs := []) (x := x11_16) (fun (x11_16 : S36) => (.vptr [.int .i64 x11_16.f0, .int .i64 x11_16.f1, .bool x11_16.f2, .bool x11_16.f3], (mkH [⟨[.int .i64 x10_5.f0, .int .i64 x10_5.f1, .bool x10_5.f2, .bool x10_5.f3], 4, false⟩]))) (vidxH (sz := 4) e37_len (by kernel_rfl)) hx11_16 (by kernel_rfl) (opsD_run 8 (l' := (opsAt g8p28).toList.drop 25) (eE := E27) (H' := (mkH [⟨[.int .i64 x10_5.f0, .int .i64 x10_5.f1, .bool x10_5.f2, .bool x10_5.f3], 4, false⟩])) (hs := []) (by kernel_rfl) (opsD_env (eE := [(132, .bool false), (131, .bool false), (130, .bool false), (129, .int .i64 (fW .i64 (x11_16.f1 + (x2_1.1.length : Int)))), (128, .int .i64 (x2_1.1.length : Int)), (127, .vec (x2_1.1).length 3 ((x2_1.1).flatMap e47)), (126, .int .i64 x11_16.f1), (125, .vptr [.int .i64 x11_16.f1, .bool x11_16.f2, .bool x11_16.f3]), (124, .vptr [.int .i64 x11_16.f0, .int .i64 x11_16.f1, .bool x11_16.f2, .bool x11_16.f3]), (123, .int .i64 y17_0), (122, .vec (x6_5).length 4 ((x6_5).flatMap e37)), (121, .int .i64 x10_5.f1), (120, .ptr 0 4 1), (119, .bool false), (118, .bool false), (117, .int .i64 (fW .i64 (x11_4.f0 + (x2_1.1.length : Int)))), (116, .int .i64 (x2_1.1.length : Int)), (115, .vec (x2_1.1).length 3 ((x2_1.1).flatMap e47)), (114, .int .i64 x11_4.f0), (113, .vptr [.int .i64 x11_4.f0, .int .i64 x11_4.f1, .bool x11_4.f2, .bool x11_4.f3]), (112, .vptr [.int .i64 x11_4.f0, .int .i64 x11_4.f1, .bool x11_4.f2, .bool x11_4.f3]), (111, .int .i64 y17_0), (110, .vec (x6_5).length 4 ((x6_5).flatMap e37)), (109, .int .i64 x10_5.f0), (108, .ptr 0 4 0), (5, .vec (x2_1.1).length 3 ((x2_1.1).flatMap e47)), (11, .vec (x6_2).length 4 ((x6_2).flatMap e37)), (12, .vec (x6_5).length 4 ((x6_5).flatMap e37)), (13, .vec (x6_10).length 4 ((x6_10).flatMap e37)), (14, .int .i64 y17_0), (15, .ptr 0 4 0)]) (congrArg (fun z : Bool => ([(132, .bool z), (131, .bool z), (130, .bool z), (129, .int .i64 (fW .i64 (x11_16.f1 + (x2_1.1.length : Int)))), (128, .int .i64 (x2_1.1.length : Int)), (127, .vec (x2_1.1).length 3 ((x2_1.1).flatMap e47)), (126, .int .i64 x11_16.f1), (125, .vptr [.int .i64 x11_16.f1, .bool x11_16.f2, .bool x11_16.f3]), (124, .vptr [.int .i64 x11_16.f0, .int .i64 x11_16.f1, .bool x11_16.f2, .bool x11_16.f3]), (123, .int .i64 y17_0), (122, .vec (x6_5).length 4 ((x6_5).flatMap e37)), (121, .int .i64 x10_5.f1), (120, .ptr 0 4 1), (119, .bool false), (118, .bool false), (117, .int .i64 (fW .i64 (x11_4.f0 + (x2_1.1.length : Int)))), (116, .int .i64 (x2_1.1.length : Int)), (115, .vec (x2_1.1).length 3 ((x2_1.1).flatMap e47)), (114, .int .i64 x11_4.f0), (113, .vptr [.int .i64 x11_4.f0, .int .i64 x11_4.f1, .bool x11_4.f2, .bool x11_4.f3]), (112, .vptr [.int .i64 x11_4.f0, .int .i64 x11_4.f1, .bool x11_4.f2, .bool x11_4.f3]), (111, .int .i64 y17_0), (110, .vec (x6_5).length 4 ((x6_5).flatMap e37)), (109, .int .i64 x10_5.f0), (108, .ptr 0 4 0), (5, .vec (x2_1.1).length 3 ((x2_1.1).flatMap e47)), (11, .vec (x6_2).length 4 ((x6_2).flatMap e37)), (12, .vec (x6_5).length 4 ((x6_5).flatMap e37)), (13, .vec (x6_10).length 4 ((x6_10).flatMap e37)), (14, .int .i64 y17_0), (15, .ptr 0 4 0)] : Env)) hb19) (opsD_run 4 (l' := (opsAt g8p28).toList.drop 29) (eE := E29) (H' := (mkH [⟨[.int .i64 x10_5.f0, .int .i64 x10_5.f1, .bool x10_5.f2, .bool x10_5.f3], 4, false⟩])) (hs := []) (by kernel_rfl) (opsD_chk (l' := (opsAt g8p28).toList.drop 30) (eE := ((137, .vptr [.int .i64 x11_29.f0, .int .i64 x11_29.f1, .bool x11_29.f2, .bool x11_29.f3]) :: E29)) (hs := []) (x := x11_29) (fun (x11_29 : S36) => (.vptr [.int .i64 x11_29.f0, .int .i64 x11_29.f1, .bool x11_29.f2, .bool x11_29.f3], (mkH [⟨[.int .i64 x10_5.f0, .int .i64 x10_5.f1, .bool x10_5.f2, .bool x10_5.f3], 4, false⟩]))) (vidxH (sz := 4) e37_len (by kernel_rfl)) hx11_29 (by kernel_rfl) (opsD_run 5 (l' := (opsAt g8p28).toList.drop 35) (eE := E30) (H' := (mkH [⟨[.int .i64 x10_5.f0, .int .i64 x10_5.f1, .bool x10_5.f2, .bool x10_5.f3], 4, false⟩])) (hs := []) (by kernel_rfl) (opsD_env (eE := [(142, .bool false), (141, .bool false), (140, .bool false), (139, .bool x11_29.f2), (138, .vptr [.bool x11_29.f2, .bool x11_29.f3]), (137, .vptr [.int .i64 x11_29.f0, .int .i64 x11_29.f1, .bool x11_29.f2, .bool x11_29.f3]), (136, .int .i64 y17_0), (135, .vec (x6_5).length 4 ((x6_5).flatMap e37)), (134, .bool x10_5.f2), (133, .ptr 0 4 2), (132, .bool false), (131, .bool false), (130, .bool false), (129, .int .i64 (fW .i64 (x11_16.f1 + (x2_1.1.length : Int)))), (128, .int .i64 (x2_1.1.length : Int)), (127, .vec (x2_1.1).length 3 ((x2_1.1).flatMap e47)), (126, .int .i64 x11_16.f1), (125, .vptr [.int .i64 x11_16.f1, .bool x11_16.f2, .bool x11_16.f3]), (124, .vptr [.int .i64 x11_16.f0, .int .i64 x11_16.f1, .bool x11_16.f2, .bool x11_16.f3]), (123, .int .i64 y17_0), (122, .vec (x6_5).length 4 ((x6_5).flatMap e37)), (121, .int .i64 x10_5.f1), (120, .ptr 0 4 1), (119, .bool false), (118, .bool false), (117, .int .i64 (fW .i64 (x11_4.f0 + (x2_1.1.length : Int)))), (116, .int .i64 (x2_1.1.length : Int)), (115, .vec (x2_1.1).length 3 ((x2_1.1).flatMap e47)), (114, .int .i64 x11_4.f0), (113, .vptr [.int .i64 x11_4.f0, .int .i64 x11_4.f1, .bool x11_4.f2, .bool x11_4.f3]), (112, .vptr [.int .i64 x11_4.f0, .int .i64 x11_4.f1, .bool x11_4.f2, .bool x11_4.f3]), (111, .int .i64 y17_0), (110, .vec (x6_5).length 4 ((x6_5).flatMap e37)), (109, .int .i64 x10_5.f0), (108, .ptr 0 4 0), (5, .vec (x2_1.1).length 3 ((x2_1.1).flatMap e47)), (11, .vec (x6_2).length 4 ((x6_2).flatMap e37)), (12, .vec (x6_5).length 4 ((x6_5).flatMap e37)), (13, .vec (x6_10).length 4 ((x6_10).flatMap e37)), (14, .int .i64 y17_0), (15, .ptr 0 4 0)]) (congrArg (fun z : Bool => ([(142, .bool z), (141, .bool z), (140, .bool z), (139, .bool x11_29.f2), (138, .vptr [.bool x11_29.f2, .bool x11_29.f3]), (137, .vptr [.int .i64 x11_29.f0, .int .i64 x11_29.f1, .bool x11_29.f2, .bool x11_29.f3]), (136, .int .i64 y17_0), (135, .vec (x6_5).length 4 ((x6_5).flatMap e37)), (134, .bool x10_5.f2), (133, .ptr 0 4 2), (132, .bool false), (131, .bool false), (130, .bool false), (129, .int .i64 (fW .i64 (x11_16.f1 + (x2_1.1.length : Int)))), (128, .int .i64 (x2_1.1.length : Int)), (127, .vec (x2_1.1).length 3 ((x2_1.1).flatMap e47)), (126, .int .i64 x11_16.f1), (125, .vptr [.int .i64 x11_16.f1, .bool x11_16.f2, .bool x11_16.f3]), (124, .vptr [.int .i64 x11_16.f0, .int .i64 x11_16.f1, .bool x11_16.f2, .bool x11_16.f3]), (123, .int .i64 y17_0), (122, .vec (x6_5).length 4 ((x6_5).flatMap e37)), (121, .int .i64 x10_5.f1), (120, .ptr 0 4 1), (119, .bool false), (118, .bool false), (117, .int .i64 (fW .i64 (x11_4.f0 + (x2_1.1.length : Int)))), (116, .int .i64 (x2_1.1.length : Int)), (115, .vec (x2_1.1).length 3 ((x2_1.1).flatMap e47)), (114, .int .i64 x11_4.f0), (113, .vptr [.int .i64 x11_4.f0, .int .i64 x11_4.f1, .bool x11_4.f2, .bool x11_4.f3]), (112, .vptr [.int .i64 x11_4.f0, .int .i64 x11_4.f1, .bool x11_4.f2, .bool x11_4.f3]), (111, .int .i64 y17_0), (110, .vec (x6_5).length 4 ((x6_5).flatMap e37)), (109, .int .i64 x10_5.f0), (108, .ptr 0 4 0), (5, .vec (x2_1.1).length 3 ((x2_1.1).flatMap e47)), (11, .vec (x6_2).length 4 ((x6_2).flatMap e37)), (12, .vec (x6_5).length 4 ((x6_5).flatMap e37)), (13, .vec (x6_10).length 4 ((x6_10).flatMap e37)), (14, .int .i64 y17_0), (15, .ptr 0 4 0)] : Env)) hb20) (opsD_run 3 (l' := (opsAt g8p28).toList.drop 38) (eE := E32) (H' := (mkH [⟨[.int .i64 x10_5.f0, .int .i64 x10_5.f1, .bool x10_5.f2, .bool x10_5.f3], 4, false⟩])) (hs := []) (by kernel_rfl) (opsD_env (eE := [(145, .bool false), (144, .bool false), (143, .int .i64 y17_0), (142, .bool false), (141, .bool false), (140, .bool false), (139, .bool x11_29.f2), (138, .vptr [.bool x11_29.f2, .bool x11_29.f3]), (137, .vptr [.int .i64 x11_29.f0, .int .i64 x11_29.f1, .bool x11_29.f2, .bool x11_29.f3]), (136, .int .i64 y17_0), (135, .vec (x6_5).length 4 ((x6_5).flatMap e37)), (134, .bool x10_5.f2), (133, .ptr 0 4 2), (132, .bool false), (131, .bool false), (130, .bool false), (129, .int .i64 (fW .i64 (x11_16.f1 + (x2_1.1.length : Int)))), (128, .int .i64 (x2_1.1.length : Int)), (127, .vec (x2_1.1).length 3 ((x2_1.1).flatMap e47)), (126, .int .i64 x11_16.f1), (125, .vptr [.int .i64 x11_16.f1, .bool x11_16.f2, .bool x11_16.f3]), (124, .vptr [.int .i64 x11_16.f0, .int .i64 x11_16.f1, .bool x11_16.f2, .bool x11_16.f3]), (123, .int .i64 y17_0), (122, .vec (x6_5).length 4 ((x6_5).flatMap e37)), (121, .int .i64 x10_5.f1), (120, .ptr 0 4 1), (119, .bool false), (118, .bool false), (117, .int .i64 (fW .i64 (x11_4.f0 + (x2_1.1.length : Int)))), (116, .int .i64 (x2_1.1.length : Int)), (115, .vec (x2_1.1).length 3 ((x2_1.1).flatMap e47)), (114, .int .i64 x11_4.f0), (113, .vptr [.int .i64 x11_4.f0, .int .i64 x11_4.f1, .bool x11_4.f2, .bool x11_4.f3]), (112, .vptr [.int .i64 x11_4.f0, .int .i64 x11_4.f1, .bool x11_4.f2, .bool x11_4.f3]), (111, .int .i64 y17_0), (110, .vec (x6_5).length 4 ((x6_5).flatMap e37)), (109, .int .i64 x10_5.f0), (108, .ptr 0 4 0), (5, .vec (x2_1.1).length 3 ((x2_1.1).flatMap e47)), (11, .vec (x6_2).length 4 ((x6_2).flatMap e37)), (12, .vec (x6_5).length 4 ((x6_5).flatMap e37)), (13, .vec (x6_10).length 4 ((x6_10).flatMap e37)), (14, .int .i64 y17_0), (15, .ptr 0 4 0)]) (congrArg (fun z : Bool => ([(145, .bool z), (144, .bool z), (143, .int .i64 y17_0), (142, .bool false), (141, .bool false), (140, .bool false), (139, .bool x11_29.f2), (138, .vptr [.bool x11_29.f2, .bool x11_29.f3]), (137, .vptr [.int .i64 x11_29.f0, .int .i64 x11_29.f1, .bool x11_29.f2, .bool x11_29.f3]), (136, .int .i64 y17_0), (135, .vec (x6_5).length 4 ((x6_5).flatMap e37)), (134, .bool x10_5.f2), (133, .ptr 0 4 2), (132, .bool false), (131, .bool false), (130, .bool false), (129, .int .i64 (fW .i64 (x11_16.f1 + (x2_1.1.length : Int)))), (128, .int .i64 (x2_1.1.length : Int)), (127, .vec (x2_1.1).length 3 ((x2_1.1).flatMap e47)), (126, .int .i64 x11_16.f1), (125, .vptr [.int .i64 x11_16.f1, .bool x11_16.f2, .bool x11_16.f3]), (124, .vptr [.int .i64 x11_16.f0, .int .i64 x11_16.f1, .bool x11_16.f2, .bool x11_16.f3]), (123, .int .i64 y17_0), (122, .vec (x6_5).length 4 ((x6_5).flatMap e37)), (121, .int .i64 x10_5.f1), (120, .ptr 0 4 1), (119, .bool false), (118, .bool false), (117, .int .i64 (fW .i64 (x11_4.f0 + (x2_1.1.length : Int)))), (116, .int .i64 (x2_1.1.length : Int)), (115, .vec (x2_1.1).length 3 ((x2_1.1).flatMap e47)), (114, .int .i64 x11_4.f0), (113, .vptr [.int .i64 x11_4.f0, .int .i64 x11_4.f1, .bool x11_4.f2, .bool x11_4.f3]), (112, .vptr [.int .i64 x11_4.f0, .int .i64 x11_4.f1, .bool x11_4.f2, .bool x11_4.f3]), (111, .int .i64 y17_0), (110, .vec (x6_5).length 4 ((x6_5).flatMap e37)), (109, .int .i64 x10_5.f0), (108, .ptr 0 4 0), (5, .vec (x2_1.1).length 3 ((x2_1.1).flatMap e47)), (11, .vec (x6_2).length 4 ((x6_2).flatMap e37)), (12, .vec (x6_5).length 4 ((x6_5).flatMap e37)), (13, .vec (x6_10).length 4 ((x6_10).flatMap e37)), (14, .int .i64 y17_0), (15, .ptr 0 4 0)] : Env)) hb21) (opsD_run 10 (l' := (opsAt g8p28).toList.drop 48) (eE := E35) (H' := (mkH [⟨[.int .i64 x10_5.f0, .int .i64 x10_5.f1, .bool x10_5.f2, .bool x10_5.f3], 4, false⟩])) (hs := []) (by kernel_rfl) (.nil)))))))))))))))) (by kernel_rfl) (by kernel_rfl) (by kernel_rfl) ?_
        refine oK [5, 11, 12, 13, 14, 155] (eE := [(5, .vec (x2_1.1).length 3 ((x2_1.1).flatMap e47)), (11, .vec (x6_2).length 4 ((x6_2).flatMap e37)), (12, .vec (x6_5).length 4 ((x6_5).flatMap e37)), (13, .vec (x6_10).length 4 ((x6_10).flatMap e37)), (14, .int .i64 y17_0), (155, .bool false)]) (by kernel_rfl) ?_
        refine ok_cut [] [⟨[.int .i64 x10_5.f0, .int .i64 x10_5.f1, .bool x10_5.f2, .bool x10_5.f3], 4, false⟩] (by kernel_rfl) rfl (by kernel_rfl) trivial ?_
        exact hj18 (false, y17_0)
  ·refine oR 4 (p' := (atN 0 (ctl1 g8p27))) (eE := ((98, .bool false) :: E18)) (H' := (mkH [])) (by kernel_rfl) ?_
   refine oC (fun (x12_0 : Bool) => .bool x12_0) (atN 1 (ctl1 g8p27)) (fun x12_0 => ((156, .bool x12_0) :: (98, .bool false) :: E18)) (fi := 27) (args := []) (by kernel_rfl) (by kernel_rfl) (fun _ => by kernel_rfl) (fun r h => g27_ok k  r h) (fun _ => by kernel_rfl) (fun x12_0 hx12_0 => ?_)
   refine oR 3 (p' := .fin) (eE := ((4, .bool x12_0) :: (156, .bool x12_0) :: (98, .bool false) :: E18)) (H' := (mkH [])) (by kernel_rfl) ?_
   exact oT (r := x12_0) (xs := [.bool x12_0]) (v := .bool x12_0) (by kernel_rfl) (by kernel_rfl) (by kernel_rfl) (.pures (by kernel_rfl)) (by kernel_rfl)
end
end Go.Proofs.Ytbmijiibfaacmaa.Am
