/- LawLitAsks, part 3: whatever the input, the law comes out true: our texts, joined by a tool, without what the claim does not name. -/
import Derived.Test.YtabhkocokojddaaPkLitAsks2
set_option maxRecDepth 100000
set_option linter.unusedVariables false
set_option linter.unusedSimpArgs false
namespace Go.Proofs.Ytabhkocokojddaa.Am
open Go
theorem part_at {k : Nat} {s : List Nat} (hk : s.length < k) (hs : By s) (hl : Sz s) : g83 k s = some ((partN s : Nat) : Int) := by
 have R : ∀ i, i ≤ s.length → g87 k (s.drop i) 10 = some ((runN 10 false (s.drop i) : Nat) : Int) := fun i hi =>
  run_at (k := k) (s := s.drop i) (by rw [List.length_drop]; omega) (hs.drop _) (by unfold Sz at *; rw [List.length_drop]; omega) (b := 10) (by decide)
 unfold Sz at hl
 unfold g83 partN
 have r0 := R 0 (by omega)
 rw [List.drop_zero] at r0
 have l0 := runN_le 10 false s
 refine bS (by (try simp (disch := omega) only [fwI]); exact r0) ?_
 generalize runN 10 false s = n at *
 clear r0
 by_cases h0 : n = 0
 ·subst h0; rfl
 rcases Nat.lt_or_ge n s.length with hn | hn
 ·obtain ⟨c, r, hc, hr, hm, hrl⟩ := dcons hn
  have nc := nthX rfl hc
  by_cases h46 : c = 46
  ·subst h46
   refine (jS (v := false) (fun j => by simp (disch := omega) only [↓reduceIte, ↓jn, gsL, nc])).trans ?_
   refine iF (by first | (simp (disch := omega) only [↓reduceIte, ↓jn, gsL]; done) | rfl) ?_
   have r1 := R (n + 1) (by omega)
   have l1 := runN_le 10 false r
   rw [hr] at r1
   have s1 := subFrom (s := s) (x := (n : Int) + 1) (i := n + 1) (by push_cast; rfl) (by omega)
   rw [hr] at s1
   have a1 : ∀ j, s.drop (n + 1 + j) = r.drop j := by intro j; rw [← List.drop_drop, hr]
   simp only [hc, fracN, h0, if_true, if_false]
   refine bS (by (try simp (disch := omega) only [fwI]); exact s1) ?_
   refine bS (by (try simp (disch := omega) only [fwI]); exact r1) ?_
   generalize runN 10 false r = m at *
   by_cases m0 : m = 0
   ·refine iT (by first | (simp (disch := omega) only [↓reduceIte, ↓jn, gsL, m0]; done) | rfl) ?_
    rw [if_pos m0]; rfl
   ·refine iF (by first | (simp (disch := omega) only [↓reduceIte, ↓jn, gsL]; done) | rfl) ?_
    rw [if_neg m0]
    rcases Nat.lt_or_ge (n + 1 + m) s.length with h1 | h1
    ·obtain ⟨e, q, he, hq, hem, hql⟩ := dcons h1
     have e256 := hs e hem
     have he' := he
     rw [a1] at he'
     have ne : nthS s ((n : Int) + 1 + m) = some (e : Int) := nthX (by omega) he
     have oe := or32 e256
     rw [he']
     by_cases hE : e = 101 ∨ e = 69
     ·rw [decide_eq_true hE] at oe
      simp only [expN, hE, if_true]
      refine (jS (v := true) (fun j => by simp (disch := omega) only [↓reduceIte, ↓jn, gsL, ne, oe])).trans ?_
      have out : g87 k (q.drop (sgn q)) 10 = some ((runN 10 false (q.drop (sgn q)) : Nat) : Int) ∧ subL s (some ((n : Int) + 1 + m + 1 + (sgn q : Nat))) none = some (q.drop (sgn q)) ∧ runN 10 false (q.drop (sgn q)) ≤ s.length := by
       have hs' := sgn_le q
       have d : s.drop (n + 1 + m + 1 + sgn q) = q.drop (sgn q) := by rw [← List.drop_drop, hq]
       have := R (n + 1 + m + 1 + sgn q) (by omega)
       rw [d] at this
       refine ⟨this, ?_, ?_⟩
       ·have := subFrom (s := s) (x := (n : Int) + 1 + m + 1 + (sgn q : Nat)) (i := n + 1 + m + 1 + sgn q) (by push_cast; rfl) (by omega)
        rw [d] at this
        exact this
       ·have := runN_le 10 false (q.drop (sgn q))
        rw [List.length_drop] at this
        omega
      obtain ⟨o1, o2, o3⟩ := out
      have fin : ∀ (x : Int) (z : Nat) (j : Unit → Option Int), subL s (some x) none = some (q.drop (sgn q)) → -1000000000000000000 ≤ x → x ≤ 1000000000000000000 → runN 10 false (q.drop (sgn q)) = z → ((subL s (some x) none).bind fun x5_2 => (g87 k x5_2 10).bind fun x5_3 => if decide (0 < x5_3) then some (fW .i64 (x + x5_3)) else j ()) = if 0 < z then some (x + z) else j () := by
       intro x z j hx b1 b2 hz
       refine bS (by (try simp (disch := omega) only [fwI]); exact hx) ?_
       refine bS (by (try simp (disch := omega) only [fwI]); exact o1) ?_
       rw [hz] at o3 ⊢
       by_cases h : 0 < z
       ·rw [if_pos h]; refine iT (by first | (simp (disch := omega) only [↓reduceIte, ↓jn, gsL]; done) | rfl) ?_; rw [fwI (by omega) (by omega)]
       ·rw [if_neg h]; refine iF (by first | (simp (disch := omega) only [↓reduceIte, ↓jn, gsL]; done) | rfl) ?_; rfl
      generalize hz : runN 10 false (q.drop (sgn q)) = z at *
      by_cases z0 : 0 < z
      ·refine jC fun j => ?_
       refine iT (by first | (simp (disch := omega) only [↓reduceIte, ↓jn, gsL]; done) | rfl) ?_
       rw [if_pos z0]
       cases q with
       | nil => simp only [sgn, List.drop_nil, runN] at hz; omega
       | cons d q =>
        simp only [List.length_cons] at hql
        have nd : nthS s ((n : Int) + 1 + m + 1) = some (d : Int) := nthX (i := n + 1 + m + 1) (by omega) hq
        by_cases hd : d = 43 ∨ d = 45
        ·have sg : sgn (d :: q) = 1 := by simp only [sgn, hd, if_true]
         rw [sg] at o2 fin ⊢
         have dd : (if decide ((d : Int) = 43) then true else decide ((d : Int) = 45)) = true := by rcases hd with rfl | rfl <;> rfl
         refine (jS (v := true) (fun j => ?_)).trans ?_
         ·rcases hd with rfl | rfl <;> simp (disch := omega) only [↓reduceIte, ↓jn, gsL, nd]
         ·refine (jS (v := (n : Int) + 1 + m + 1 + 1) (fun j => ?_)).trans ?_
          ·simp (disch := omega) only [↓reduceIte, ↓jn, gsL]
          ·refine (fin _ z j o2 (by omega) (by omega) rfl).trans ?_
           rw [if_pos z0]
           exact congrArg some (by omega)
        ·have sg : sgn (d :: q) = 0 := by simp only [sgn, hd, if_false]
         rw [sg] at o2 fin ⊢
         have d1 : ¬ (d : Int) = 43 := by omega
         have d2 : ¬ (d : Int) = 45 := by omega
         refine (jS (v := false) (fun j => ?_)).trans ?_
         ·simp (disch := omega) only [↓reduceIte, ↓jn, gsL, nd, d1, d2]
         ·refine (jS (v := (n : Int) + 1 + m + 1) (fun j => ?_)).trans ?_
          ·simp (disch := omega) only [↓reduceIte, ↓jn, gsL]
          ·refine (fin _ z j (by simpa using o2) (by omega) (by omega) rfl).trans ?_
           rw [if_pos z0]
           exact congrArg some (by omega)
      ·rw [if_neg z0]
       refine (jS (v := ()) (fun j => ?_)).trans ?_
       ·refine iT (by first | (simp (disch := omega) only [↓reduceIte, ↓jn, gsL]; done) | rfl) ?_
        cases q with
        | nil =>
         refine (jS (v := false) (fun j => ?_)).trans ?_
         ·simp only [List.length_nil] at hql
          simp (disch := omega) only [↓reduceIte, ↓jn, gsL]
         ·refine (jS (v := (n : Int) + 1 + m + 1) (fun j => ?_)).trans ?_
          ·simp (disch := omega) only [↓reduceIte, ↓jn, gsL]
          ·refine (fin _ z j (by simpa [sgn] using o2) (by omega) (by omega) rfl).trans ?_
           rw [if_neg z0]
        | cons d q =>
         simp only [List.length_cons] at hql
         have nd : nthS s ((n : Int) + 1 + m + 1) = some (d : Int) := nthX (i := n + 1 + m + 1) (by omega) hq
         by_cases hd : d = 43 ∨ d = 45
         ·have sg : sgn (d :: q) = 1 := by simp only [sgn, hd, if_true]
          rw [sg] at o2 fin
          refine (jS (v := true) (fun j => ?_)).trans ?_
          ·rcases hd with rfl | rfl <;> simp (disch := omega) only [↓reduceIte, ↓jn, gsL, nd]
          ·refine (jS (v := (n : Int) + 1 + m + 1 + 1) (fun j => ?_)).trans ?_
           ·simp (disch := omega) only [↓reduceIte, ↓jn, gsL]
           ·refine (fin _ z j o2 (by omega) (by omega) rfl).trans ?_
            rw [if_neg z0]
         ·have sg : sgn (d :: q) = 0 := by simp only [sgn, hd, if_false]
          rw [sg] at o2 fin
          have d1 : ¬ (d : Int) = 43 := by omega
          have d2 : ¬ (d : Int) = 45 := by omega
          refine (jS (v := false) (fun j => ?_)).trans ?_
          ·simp (disch := omega) only [↓reduceIte, ↓jn, gsL, nd, d1, d2]
          ·refine (jS (v := (n : Int) + 1 + m + 1) (fun j => ?_)).trans ?_
           ·simp (disch := omega) only [↓reduceIte, ↓jn, gsL]
           ·refine (fin _ z j (by simpa using o2) (by omega) (by omega) rfl).trans ?_
            rw [if_neg z0]
       ·simp (disch := omega) only [↓reduceIte, ↓jn, gsL]
        exact congrArg some (by omega)
     ·rw [decide_eq_false hE] at oe
      simp only [expN, hE, if_false]
      refine (jS (v := false) (fun j => by simp (disch := omega) only [↓reduceIte, ↓jn, gsL, ne, oe])).trans ?_
      simp (disch := omega) only [↓reduceIte, ↓jn, gsL]
      exact congrArg some (by omega)
    ·have he : r.drop m = [] := by rw [← a1]; exact dnil h1
     simp only [he, expN]
     refine (jS (v := false) (fun j => by simp (disch := omega) only [↓reduceIte, ↓jn, gsL])).trans ?_
     simp (disch := omega) only [↓reduceIte, ↓jn, gsL]
     exact congrArg some (by omega)
  ·refine (jS (v := true) (fun j => by simp (disch := omega) only [↓reduceIte, ↓jn, gsL, nc])).trans ?_
   refine iT (by first | (simp (disch := omega) only [↓reduceIte, ↓jn, gsL]; done) | rfl) ?_
   rw [hc]
   simp only [fracN, h0, h46, if_false]; rfl
 ·refine (jS (v := true) (fun j => by simp (disch := omega) only [↓reduceIte, ↓jn, gsL])).trans ?_
  refine iT (by first | (simp (disch := omega) only [↓reduceIte, ↓jn, gsL]; done) | rfl) ?_
  rw [dnil hn]
  simp only [fracN, h0, if_false]; rfl
end Go.Proofs.Ytabhkocokojddaa.Am
set_option maxRecDepth 100000
set_option linter.unusedVariables false
set_option linter.unusedSimpArgs false
namespace Go.Proofs.Ytabhkocokojddaa.Am
open Go
theorem dg10 {c : Nat} (hc : c < 256) (h : dgN c < 10) : fW .i64 (fW .u8 ((c : Int) - 48)) = ((dgN c : Nat) : Int) := by
 have w := byteAll (f := fun c => !decide (dgN c < 10) || decide (fW .i64 (fW .u8 ((c : Int) - 48)) = ((dgN c : Nat) : Int))) (by decide +kernel) hc
 simpa [h] using w
theorem rwhole_e (k : Nat) {s : List Nat} (hk : s.length < k) (hs : By s) (hl : Sz s) (c8 : Unit → Option Int) {a m V n f : Nat} (hV : V ≤ 99) (h : a + m + 1 ≤ s.length) :
 g76_l6 k c8 s (a : Int) (n : Int) (m : Int) (f + 1) (V : Int) ((a + m : Nat) : Int) = if (2 ≤ V ∧ V ≤ 36) ∧ 0 < runN V false (s.drop (a + m + 1)) then some ((m + 1 + runN V false (s.drop (a + m + 1)) : Nat) : Int) else c8 () := by
 rw [g76_l6_s]
 have r := rrun_at hk hs hl hV h
 unfold Sz at hl
 have l := runN_le V false (s.drop (a + m + 1))
 rw [List.length_drop] at l
 have e : ((a : Int) + (m : Int)) = ((a + m : Nat) : Int) := by omega
 have e1 : (((a + m : Nat) : Int) + 1) = ((a + m + 1 : Nat) : Int) := by omega
 refine iF (by first | (simp (disch := omega) only [↓reduceIte, ↓jn, gsL]; done) | rfl) ?_
 rw [fwI (n := (a : Int) + (m : Int)) (by omega) (by omega), e, fwI (n := ((a + m : Nat) : Int) + 1) (by omega) (by omega), e1]
 refine bS (by (try simp (disch := omega) only [fwI]); exact r) ?_
 generalize runN V false (s.drop (a + m + 1)) = K at *
 clear r
 refine (jS (v := decide ((2 ≤ V ∧ V ≤ 36) ∧ 0 < K)) (fun j => ?_)).trans ?_
 ·by_cases h1 : 2 ≤ V
  ·by_cases h2 : V ≤ 36
   ·by_cases h3 : 0 < K
    ·simp (disch := omega) only [↓reduceIte, ↓jn, gsL, h1, h2, h3, and_self]
    ·simp (disch := omega) only [↓reduceIte, ↓jn, gsL, h1, h2, h3, and_self, and_false]
   ·simp (disch := omega) only [↓reduceIte, ↓jn, gsL, h1, h2, and_false, false_and]
  ·simp (disch := omega) only [↓reduceIte, ↓jn, gsL, h1, false_and]
 ·by_cases h0 : (2 ≤ V ∧ V ≤ 36) ∧ 0 < K
  ·rw [if_pos h0]
   refine iT (by first | (simp (disch := omega) only [↓reduceIte, ↓jn, gsL, h0]; done) | rfl) ?_
   simp (disch := omega) only [↓reduceIte, ↓jn, gsL]
   exact congrArg some (by omega)
  ·rw [if_neg h0]
   refine iF (by first | (simp (disch := omega) only [↓reduceIte, ↓jn, gsL, h0]; done) | rfl) ?_
   rfl
theorem rwhole_s (k : Nat) {s : List Nat} (hs : By s) (hl : Sz s) (c8 : Unit → Option Int) {a m V n f i c : Nat} {r : List Nat} (hc : s.drop i = c :: r) (hd : dgN c < 10) (hi : i < a + m) (ha : a + m ≤ s.length) (hV : V ≤ 9) :
 g76_l6 k c8 s (a : Int) (n : Int) (m : Int) (f + 1) (V : Int) (i : Int) = g76_l6 k c8 s (a : Int) (n : Int) (m : Int) f ((10 * V + dgN c : Nat) : Int) ((i + 1 : Nat) : Int) := by
 unfold Sz at hl
 rw [g76_l6_s]
 have c256 := hs c (drop_mem hc)
 refine iT (by first | (simp (disch := omega) only [↓reduceIte, ↓jn, gsL]; done) | rfl) ?_
 refine bS (by (try simp (disch := omega) only [fwI]); exact nthX rfl hc) ?_
 rw [dg10 c256 hd]
 have e1 : ((V : Int) * 10 + (dgN c : Nat)) = ((10 * V + dgN c : Nat) : Int) := by omega
 have e2 : ((i : Int) + 1) = ((i + 1 : Nat) : Int) := by omega
 simp (disch := omega) only [fwI]
 rw [e1, e2]
theorem rwhole_at {k : Nat} {s : List Nat} (hk : s.length < k) (hk3 : 4 ≤ k) (hs : By s) (hl : Sz s) {a : Nat} (ha : a ≤ s.length) : g76 k s (a : Int) = some ((wholeN (s.drop a) : Nat) : Int) := by
 have r1 : g89 k s (a : Int) 10 true = some ((runN 10 false (s.drop a) : Nat) : Int) := rrun_at hk hs hl (b := 10) (by decide) ha
 have r2 := rbar_at hk hs hl ha
 have hl' := hl
 unfold Sz at hl
 unfold g76
 refine bS (by (try simp (disch := omega) only [fwI]); exact r1) ?_
 refine bS (by (try simp (disch := omega) only [fwI]); exact r2) ?_
 obtain ⟨k', rfl⟩ : ∃ k', k = k' + 4 := ⟨k - 4, by omega⟩
 have bl := barN_le 10 (s.drop a)
 rw [List.length_drop] at bl
 have no : frontN (s.drop a) = (0, 10) → wholeN (s.drop a) = runN 10 false (s.drop a) := by
  intro h; unfold wholeN; rw [h]; rfl
 have yes : ∀ m V, frontN (s.drop a) = (m + 1, V) → wholeN (s.drop a) = if 0 < runN V false (s.drop (a + m + 1)) then m + 1 + runN V false (s.drop (a + m + 1)) else runN 10 false (s.drop a) := by
  intro m V h; unfold wholeN; rw [h]; simp only [List.drop_drop, Nat.add_assoc, Nat.succ_pos, true_and]
 clear r1 r2
 generalize hn : runN 10 false (s.drop a) = n at *
 cases ht : s.drop a with
 | nil =>
  rw [ht] at no
  rw [no rfl]
  refine (jS (v := false) (fun j => rfl)).trans ?_
  rfl
 | cons p r =>
  have hp := hs p (drop_mem ht)
  have tl := drop_len ht
  have dr := drop_step ht
  by_cases h1 : dgN p < 10
  ·cases hr : r with
   | nil =>
    rw [hr] at ht tl dr
    rw [ht] at no
    have e3 : barN 10 [p] = 1 := by simp only [barN, h1, if_true]
    rw [no rfl, e3]
    simp only [List.length_nil] at tl
    refine (jS (v := false) (fun j => by simp (disch := omega) only [↓reduceIte, ↓jn, gsL])).trans ?_
    rfl
   | cons q r' =>
    rw [hr] at ht tl dr
    have hq := hs q (drop_mem dr)
    have dr' := drop_step dr
    have tl' := drop_len dr
    by_cases h2 : dgN q < 10
    ·have hq35 : ¬ q = 35 := by intro h; rw [h] at h2; exact dg_35 h2
     cases hr' : r' with
     | nil =>
      rw [hr'] at ht tl dr dr'
      rw [ht] at no
      have e3 : barN 10 [p, q] = 2 := by simp only [barN, h1, h2, if_true]
      have e4 : frontN [p, q] = (0, 10) := by simp only [frontN, h1, h2, hq35, if_true, if_false]
      rw [no e4, e3]
      simp only [List.length_cons, List.length_nil] at tl
      refine (jS (v := false) (fun j => by simp (disch := omega) only [↓reduceIte, ↓jn, gsL])).trans ?_
      rfl
     | cons c r'' =>
      rw [hr'] at ht tl dr dr'
      have hc := hs c (drop_mem dr')
      by_cases h3 : dgN c < 10
      ·have hc35 : ¬ c = 35 := by intro h; rw [h] at h3; exact dg_35 h3
       have e3 : barN 10 (p :: q :: c :: r'') = barN 10 r'' + 3 := by simp only [barN, h1, h2, h3, if_true]
       have e4 : frontN (p :: q :: c :: r'') = (0, 10) := by simp only [frontN, h1, h2, hq35, hc35, if_true, if_false, false_and]
       rw [ht] at no
       rw [no e4, e3]
       refine (jS (v := false) (fun j => by simp (disch := omega) only [↓reduceIte, ↓jn, gsL])).trans ?_
       rfl
      ·have e3 : barN 10 (p :: q :: c :: r'') = 2 := by simp only [barN, h1, h2, h3, if_true, if_false]
       have nc : nthS s ((a : Int) + ((2 : Nat) : Int)) = some (c : Int) := nthX (by omega) dr'
       simp only [List.length_cons] at tl
       by_cases hc35 : c = 35
       ·subst hc35
        have go := rwhole_e (k' + 4) hk hs hl' (n := n) (a := a) (m := 2) (f := k' + 1) (V := 10 * (10 * 0 + dgN p) + dgN q)
        have st1 := fun c8 => rwhole_s (k' + 4) hs hl' c8 (n := n) (a := a) (m := 2) (f := k' + 3) (V := 0) ht h1 (by omega) (by omega) (by omega)
        have st2 := fun c8 => rwhole_s (k' + 4) hs hl' c8 (n := n) (a := a) (m := 2) (f := k' + 2) (V := 10 * 0 + dgN p) dr h2 (by omega) (by omega) (by omega)
        rw [show 10 * 0 + dgN p = dgN p by omega] at *
        rw [e3]
        refine (jS (v := true) (fun j => ?_)).trans ?_
        ·simp (disch := omega) only [↓reduceIte, ↓jn, gsL, nc]
        ·by_cases hf : 2 ≤ 10 * dgN p + dgN q ∧ 10 * dgN p + dgN q ≤ 36
         ·have e4 : frontN (p :: q :: 35 :: r'') = (2 + 1, 10 * dgN p + dgN q) := by simp only [frontN, h1, h2, hq35, hf, if_true, if_false, and_self]
          rw [ht] at yes
          rw [yes 2 _ e4]
          by_cases hK : 0 < runN (10 * dgN p + dgN q) false (s.drop (a + 2 + 1))
          ·refine jC fun j => ?_
           refine iT (by first | (simp (disch := omega) only [↓reduceIte, ↓jn, gsL]; done) | rfl) ?_
           refine (st1 j).trans ((st2 j).trans ((go j (by omega) (by omega)).trans ?_))
           rw [if_pos ⟨hf, hK⟩, if_pos hK]
          ·refine (jS (v := ()) (fun j => ?_)).trans ?_
           ·refine iT (by first | (simp (disch := omega) only [↓reduceIte, ↓jn, gsL]; done) | rfl) ?_
            refine (st1 j).trans ((st2 j).trans ((go j (by omega) (by omega)).trans ?_))
            rw [if_neg (fun h => hK h.2)]
           ·rw [if_neg hK]
         ·have e4 : frontN (p :: q :: 35 :: r'') = (0, 10) := by simp only [frontN, h1, h2, hq35, if_true, if_false, true_and, hf]
          rw [ht] at no
          rw [no e4]
          refine (jS (v := ()) (fun j => ?_)).trans rfl
          refine iT (by first | (simp (disch := omega) only [↓reduceIte, ↓jn, gsL]; done) | rfl) ?_
          refine (st1 j).trans ((st2 j).trans ((go j (by omega) (by omega)).trans ?_))
          rw [if_neg (fun h => hf h.1)]
       ·have e4 : frontN (p :: q :: c :: r'') = (0, 10) := by simp only [frontN, h1, h2, hq35, hc35, if_true, if_false, false_and]
        rw [ht] at no
        rw [no e4, e3]
        refine (jS (v := false) (fun j => by simp (disch := omega) only [↓reduceIte, ↓jn, gsL, nc])).trans ?_
        rfl
    ·have e3 : barN 10 (p :: q :: r') = 1 := by simp only [barN, h1, h2, if_true, if_false]
     have nc : nthS s ((a : Int) + ((1 : Nat) : Int)) = some (q : Int) := nthX (by omega) dr
     simp only [List.length_cons] at tl
     by_cases hq35 : q = 35
     ·subst hq35
      have go := rwhole_e (k' + 4) hk hs hl' (n := n) (a := a) (m := 1) (f := k' + 2) (V := 10 * 0 + dgN p)
      have st1 := fun c8 => rwhole_s (k' + 4) hs hl' c8 (n := n) (a := a) (m := 1) (f := k' + 3) (V := 0) ht h1 (by omega) (by omega) (by omega)
      rw [show 10 * 0 + dgN p = dgN p by omega] at *
      rw [e3]
      refine (jS (v := true) (fun j => ?_)).trans ?_
      ·simp (disch := omega) only [↓reduceIte, ↓jn, gsL, nc]
      ·by_cases hf : 2 ≤ dgN p
       ·have e4 : frontN (p :: 35 :: r') = (1 + 1, dgN p) := by simp only [frontN, h1, hf, if_true]
        rw [ht] at yes
        rw [yes 1 _ e4]
        by_cases hK : 0 < runN (dgN p) false (s.drop (a + 1 + 1))
        ·refine jC fun j => ?_
         refine iT (by first | (simp (disch := omega) only [↓reduceIte, ↓jn, gsL]; done) | rfl) ?_
         refine (st1 j).trans ((go j (by omega) (by omega)).trans ?_)
         rw [if_pos ⟨⟨hf, by omega⟩, hK⟩, if_pos hK]
        ·refine (jS (v := ()) (fun j => ?_)).trans ?_
         ·refine iT (by first | (simp (disch := omega) only [↓reduceIte, ↓jn, gsL]; done) | rfl) ?_
          refine (st1 j).trans ((go j (by omega) (by omega)).trans ?_)
          rw [if_neg (fun h => hK h.2)]
         ·rw [if_neg hK]
       ·have e4 : frontN (p :: 35 :: r') = (0, 10) := by simp only [frontN, h1, hf, if_true, if_false]
        rw [ht] at no
        rw [no e4]
        refine (jS (v := ()) (fun j => ?_)).trans rfl
        refine iT (by first | (simp (disch := omega) only [↓reduceIte, ↓jn, gsL]; done) | rfl) ?_
        refine (st1 j).trans ((go j (by omega) (by omega)).trans ?_)
        rw [if_neg (fun h => hf h.1.1)]
     ·have e4 : frontN (p :: q :: r') = (0, 10) := by simp only [frontN, h1, h2, hq35, if_true, if_false]
      rw [ht] at no
      rw [no e4, e3]
      refine (jS (v := false) (fun j => by simp (disch := omega) only [↓reduceIte, ↓jn, gsL, nc])).trans ?_
      rfl
  ·have e4 : frontN (p :: r) = (0, 10) := by cases r <;> simp only [frontN, h1, if_false]
   have e3 : barN 10 (p :: r) = 0 := by simp only [barN, h1, if_false]
   rw [ht] at no
   rw [no e4, e3]
   refine (jS (v := false) (fun j => rfl)).trans rfl
theorem rbroken_at {k : Nat} {s : List Nat} (hk : s.length < k) (hs : By s) (hl : Sz s) {a : Nat} (ha : a ≤ s.length) : g84 k s (a : Int) = some ((partN (s.drop a) : Nat) : Int) := by
 have R : ∀ i, i ≤ s.length → g89 k s (i : Int) 10 true = some ((runN 10 false (s.drop i) : Nat) : Int) := fun i hi => rrun_at hk hs hl (b := 10) (by decide) hi
 unfold Sz at hl
 unfold g84 partN
 have r0 := R a ha
 have l0 := runN_le 10 false (s.drop a)
 rw [List.length_drop] at l0
 refine bS (by (try simp (disch := omega) only [fwI]); exact r0) ?_
 rw [List.drop_drop]
 generalize runN 10 false (s.drop a) = n at *
 clear r0
 by_cases h0 : n = 0
 ·subst h0
  refine (jS (v := true) (fun j => ?_)).trans rfl
  have e : fW .i64 ((a : Int) + ((0 : Nat) : Int)) = (a : Int) := by rw [fwI (by omega) (by omega)]; omega
  rw [e]
  simp (disch := omega) only [↓reduceIte, ↓jn, gsL]
 rcases Nat.lt_or_ge (a + n) s.length with hn | hn
 ·obtain ⟨c, r, hc, hr, hm, hrl⟩ := dcons hn
  have nc : nthS s ((a : Int) + (n : Int)) = some (c : Int) := nthX (by omega) hc
  have na : ¬ (a : Int) + (n : Int) = a := by omega
  by_cases h46 : c = 46
  ·subst h46
   refine (jS (v := false) (fun j => by simp (disch := omega) only [↓reduceIte, ↓jn, gsL, nc, na])).trans ?_
   refine iF (by first | (simp (disch := omega) only [↓reduceIte, ↓jn, gsL]; done) | rfl) ?_
   have r1 := R (a + n + 1) (by omega)
   have l1 := runN_le 10 false r
   rw [hr] at r1
   have a1 : ∀ j, s.drop (a + n + 1 + j) = r.drop j := by intro j; rw [← List.drop_drop, hr]
   have e1 : fW .i64 (fW .i64 ((a : Int) + (n : Int)) + 1) = ((a + n + 1 : Nat) : Int) := by rw [fwI (n := (a : Int) + (n : Int)) (by omega) (by omega), fwI (by omega) (by omega)]; omega
   simp only [hc, fracN, h0, if_true, if_false]
   rw [e1]
   refine bS (by (try simp (disch := omega) only [fwI]); exact r1) ?_
   generalize runN 10 false r = m at *
   by_cases m0 : m = 0
   ·refine iT (by first | (simp (disch := omega) only [↓reduceIte, ↓jn, gsL, m0]; done) | rfl) ?_
    rw [if_pos m0]; rfl
   ·refine iF (by first | (simp (disch := omega) only [↓reduceIte, ↓jn, gsL]; done) | rfl) ?_
    rw [if_neg m0]
    rcases Nat.lt_or_ge (a + n + 1 + m) s.length with h1 | h1
    ·obtain ⟨e, q, he, hq, hem, hql⟩ := dcons h1
     have he' := he
     rw [a1] at he'
     have ne : nthS s (((a + n + 1 : Nat) : Int) + m) = some (e : Int) := nthX (by omega) he
     rw [he']
     by_cases hE : e = 101 ∨ e = 69
     ·simp only [expN, hE, if_true]
      refine (jS (v := true) (fun j => ?_)).trans ?_
      ·rcases hE with rfl | rfl <;> simp (disch := omega) only [↓reduceIte, ↓jn, gsL, ne]
      have hs' := sgn_le q
      have dd : s.drop (a + n + 1 + m + 1 + sgn q) = q.drop (sgn q) := by rw [← List.drop_drop, hq]
      have o1 := R (a + n + 1 + m + 1 + sgn q) (by omega)
      rw [dd] at o1
      have o3 : runN 10 false (q.drop (sgn q)) ≤ q.length - sgn q := by
       have := runN_le 10 false (q.drop (sgn q))
       rwa [List.length_drop] at this
      generalize hz : runN 10 false (q.drop (sgn q)) = z at *
      have fin : ∀ (x y : Int) (j : Int → Option Int), x = ((a + n + 1 + m + 1 + sgn q : Nat) : Int) → ((g89 k s x 10 true).bind fun x5_2 => if decide (0 < x5_2) then j (fW .i64 (x + x5_2)) else j y) = if 0 < z then j (x + z) else j y := by
       intro x y j hx
       subst hx
       refine bS (by (try simp (disch := omega) only [fwI]); exact o1) ?_
       by_cases h : 0 < z
       ·rw [if_pos h]; refine iT (by first | (simp (disch := omega) only [↓reduceIte, ↓jn, gsL]; done) | rfl) ?_; rw [fwI (by omega) (by omega)]
       ·rw [if_neg h]; refine iF (by first | (simp (disch := omega) only [↓reduceIte, ↓jn, gsL]; done) | rfl) ?_; rfl
      refine (jS (v := if 0 < z then ((a + n + 1 + m + 1 + sgn q + z : Nat) : Int) else ((a + n + 1 + m : Nat) : Int)) (fun j => ?_)).trans ?_
      ·refine iT (by first | (simp (disch := omega) only [↓reduceIte, ↓jn, gsL]; done) | rfl) ?_
       have key : ∀ b : Nat, b = sgn q → (jn (fun (z10 : Int) => (g89 k s z10 10 true).bind fun x5_2 => if (decide (0 < x5_2)) then (j (fW .i64 (z10 + x5_2))) else (j (fW .i64 (((a + n + 1 : Nat) : Int) + m)))) (fun j10 => if decide (b = 1) then (j10 (fW .i64 (fW .i64 (fW .i64 (((a + n + 1 : Nat) : Int) + m) + 1) + 1))) else (j10 (fW .i64 (fW .i64 (((a + n + 1 : Nat) : Int) + m) + 1))))) = j (if 0 < z then ((a + n + 1 + m + 1 + sgn q + z : Nat) : Int) else ((a + n + 1 + m : Nat) : Int)) := by
        intro b hb
        refine (jS (v := ((a + n + 1 + m + 1 + sgn q : Nat) : Int)) (fun j => ?_)).trans ?_
        ·have hb01 : b = 0 ∨ b = 1 := by
          rw [hb]; unfold sgn; split
          ·split <;> simp
          ·simp
         rcases hb01 with rfl | rfl
         ·simp (disch := omega) only [↓reduceIte, ↓jn, gsL]
          exact congrArg j (by omega)
         ·simp (disch := omega) only [↓reduceIte, ↓jn, gsL]
          exact congrArg j (by omega)
        ·refine (fin _ _ j rfl).trans ?_
         by_cases h : 0 < z
         ·rw [if_pos h, if_pos h]; exact congrArg j (by omega)
         ·rw [if_neg h, if_neg h]; rw [fwI (by omega) (by omega)]; exact congrArg j (by omega)
       cases q with
       | nil =>
        simp only [List.length_nil] at hql
        refine (jS (v := false) (fun j => ?_)).trans ?_
        ·simp (disch := omega) only [↓reduceIte, ↓jn, gsL]
        ·exact key 0 rfl
       | cons d q =>
        simp only [List.length_cons] at hql
        have nd : nthS s (((a + n + 1 : Nat) : Int) + m + 1) = some (d : Int) := nthX (i := a + n + 1 + m + 1) (by omega) hq
        by_cases hd : d = 43 ∨ d = 45
        ·refine (jS (v := true) (fun j => ?_)).trans ?_
         ·rcases hd with rfl | rfl <;> simp (disch := omega) only [↓reduceIte, ↓jn, gsL, nd]
         ·exact key 1 (by simp only [sgn, hd, if_true])
        ·have d1 : ¬ (d : Int) = 43 := by omega
         have d2 : ¬ (d : Int) = 45 := by omega
         refine (jS (v := false) (fun j => ?_)).trans ?_
         ·simp (disch := omega) only [↓reduceIte, ↓jn, gsL, nd, d1, d2]
         ·exact key 0 (by simp only [sgn, hd, if_false])
      ·by_cases h : 0 < z
       ·rw [if_pos h, if_pos h]; simp (disch := omega) only [↓reduceIte, ↓jn, gsL]; exact congrArg some (by omega)
       ·rw [if_neg h, if_neg h]; simp (disch := omega) only [↓reduceIte, ↓jn, gsL]; exact congrArg some (by omega)
     ·have e1 : ¬ (e : Int) = 101 := by omega
      have e2 : ¬ (e : Int) = 69 := by omega
      simp only [expN, hE, if_false]
      refine (jS (v := false) (fun j => by simp (disch := omega) only [↓reduceIte, ↓jn, gsL, ne, e1, e2])).trans ?_
      refine (jS (v := ((a + n + 1 + m : Nat) : Int)) (fun j => ?_)).trans ?_
      ·refine iF (by first | (simp (disch := omega) only [↓reduceIte, ↓jn, gsL]; done) | rfl) ?_
       rw [fwI (by omega) (by omega)]; exact congrArg j (by omega)
      ·simp (disch := omega) only [↓reduceIte, ↓jn, gsL]
       exact congrArg some (by omega)
    ·have he : r.drop m = [] := by rw [← a1]; exact dnil h1
     simp only [he, expN]
     refine (jS (v := false) (fun j => by simp (disch := omega) only [↓reduceIte, ↓jn, gsL])).trans ?_
     refine (jS (v := ((a + n + 1 + m : Nat) : Int)) (fun j => ?_)).trans ?_
     ·refine iF (by first | (simp (disch := omega) only [↓reduceIte, ↓jn, gsL]; done) | rfl) ?_
      rw [fwI (by omega) (by omega)]; exact congrArg j (by omega)
     ·simp (disch := omega) only [↓reduceIte, ↓jn, gsL]
      exact congrArg some (by omega)
  ·have c46 : ¬ (c : Int) = 46 := by omega
   refine (jS (v := true) (fun j => by simp (disch := omega) only [↓reduceIte, ↓jn, gsL, nc, na, c46])).trans ?_
   refine iT (by first | (simp (disch := omega) only [↓reduceIte, ↓jn, gsL]; done) | rfl) ?_
   rw [hc]
   simp only [fracN, h0, h46, if_false]; rfl
 ·refine (jS (v := true) (fun j => by simp (disch := omega) only [↓reduceIte, ↓jn, gsL])).trans ?_
  refine iT (by first | (simp (disch := omega) only [↓reduceIte, ↓jn, gsL]; done) | rfl) ?_
  rw [dnil hn]
  simp only [fracN, h0, if_false]; rfl
end Go.Proofs.Ytabhkocokojddaa.Am
set_option maxRecDepth 100000
set_option linter.unusedVariables false
namespace Go.Proofs.Ytabhkocokojddaa.Am
noncomputable section
open Go
def X91 : Fx (Int × Int) := ⟨Try.prog, cx, Try.f91, fun r => .tuple [.int .i64 r.1, .int .i64 r.2], 0, fun _ => H0, cxTi, cxOrd⟩
def g91p0 : Pt := nav [0] (bodyAt Try.f91)
def g91p1 : Pt := nav [0, 0, 0, 0, 0] g91p0
def g91p2 : Pt := nav [0, 0] g91p1
def g91p4 : Pt := nav [2, 0] g91p2
def g91p6 : Pt := nav [0, 0] g91p4
def g91p8 : Pt := nav [2, 0] g91p6
def g91p9 : Pt := nav [0, 0] g91p8
def g91p11 : Pt := nav [2, 0] g91p9
def g91p12 : Pt := nav [0, 0] g91p11
def g91 (k : Nat) (a0 : Int) : Option (Int × Int) :=
 if (decide (a0 < 128)) then (some ((1 : Int), fW .i64 a0)) else (if (decide (shrC a0 5 = 6)) then (some ((2 : Int), fW .i64 (andI .u8 a0 31))) else (if (decide (shrC a0 4 = 14)) then (some ((3 : Int), fW .i64 (andI .u8 a0 15))) else (if (decide (shrC a0 3 = 30)) then (some ((4 : Int), fW .i64 (andI .u8 a0 7))) else (some ((0 : Int), (0 : Int))))))
theorem g91_ok (k : Nat) (a0 : Int) (r : (Int × Int)) (h : g91 k a0 = some r) : PureOk Try.prog 91 [.int .u8 a0] (.tuple [.int .i64 r.1, .int .i64 r.2]) := by
 refine pure_of X91 (fun _ => rfl) Try.func91 (by decide +kernel) (by kernel_rfl) (t := g91 k a0) ?_ h
 unfold g91
 refine oE (eE := [(0, .int .u8 a0)]) (by kernel_rfl) ?_
 let E1 : Env := [(4, .bool (decide (a0 < 128))), (6, .bool (decide (a0 < 128))), (5, .int .u8 a0), (3, .int .i64 0), (2, .int .i64 0), (0, .int .u8 a0)]
 refine oR 13 (p' := g91p2) (eE := E1) (H' := (mkH [])) (by kernel_rfl) ?_
 refine oS 4 (b := decide (a0 < 128)) (by kernel_rfl) (fun hb => ?_) (fun hb => ?_)
 ·let E2 : Env := ((3, .int .i64 (fW .i64 a0)) :: (2, .int .i64 1) :: (8, .int .i64 (fW .i64 a0)) :: (7, .int .u8 a0) :: (4, .bool true) :: E1)
  refine oR 9 (p' := .fin) (eE := E2) (H' := (mkH [])) (by kernel_rfl) ?_
  exact oT (r := ((1 : Int), fW .i64 a0)) (xs := [.int .i64 1, .int .i64 (fW .i64 a0)]) (v := .tuple [.int .i64 1, .int .i64 (fW .i64 a0)]) (by kernel_rfl) (by kernel_rfl) (by kernel_rfl) (.pures (by kernel_rfl)) (by kernel_rfl)
 ·let E3 : Env := ((9, .bool (decide (shrC a0 5 = 6))) :: (12, .bool (decide (shrC a0 5 = 6))) :: (11, .int .u8 (shrC a0 5)) :: (10, .int .u8 a0) :: (4, .bool false) :: E1)
  refine oR 8 (p' := g91p6) (eE := E3) (H' := (mkH [])) (by kernel_rfl) ?_
  refine oK [0, 9] (eE := [(0, .int .u8 a0), (9, .bool (decide (shrC a0 5 = 6)))]) (by kernel_rfl) ?_
  refine oS 9 (b := decide (shrC a0 5 = 6)) (by kernel_rfl) (fun hb => ?_) (fun hb => ?_)
  ·let E4 : Env := [(3, .int .i64 (fW .i64 (andI .u8 a0 31))), (2, .int .i64 2), (15, .int .i64 (fW .i64 (andI .u8 a0 31))), (14, .int .u8 (andI .u8 a0 31)), (13, .int .u8 a0), (9, .bool true), (0, .int .u8 a0), (9, .bool (decide (shrC a0 5 = 6)))]
   refine oR 10 (p' := .fin) (eE := E4) (H' := (mkH [])) (by kernel_rfl) ?_
   exact oT (r := ((2 : Int), fW .i64 (andI .u8 a0 31))) (xs := [.int .i64 2, .int .i64 (fW .i64 (andI .u8 a0 31))]) (v := .tuple [.int .i64 2, .int .i64 (fW .i64 (andI .u8 a0 31))]) (by kernel_rfl) (by kernel_rfl) (by kernel_rfl) (.pures (by kernel_rfl)) (by kernel_rfl)
  ·let E5 : Env := [(16, .bool (decide (shrC a0 4 = 14))), (19, .bool (decide (shrC a0 4 = 14))), (18, .int .u8 (shrC a0 4)), (17, .int .u8 a0), (9, .bool false), (0, .int .u8 a0), (9, .bool (decide (shrC a0 5 = 6)))]
   refine oR 8 (p' := g91p9) (eE := E5) (H' := (mkH [])) (by kernel_rfl) ?_
   refine oS 16 (b := decide (shrC a0 4 = 14)) (by kernel_rfl) (fun hb => ?_) (fun hb => ?_)
   ·let E6 : Env := ((3, .int .i64 (fW .i64 (andI .u8 a0 15))) :: (2, .int .i64 3) :: (22, .int .i64 (fW .i64 (andI .u8 a0 15))) :: (21, .int .u8 (andI .u8 a0 15)) :: (20, .int .u8 a0) :: (16, .bool true) :: E5)
    refine oR 10 (p' := .fin) (eE := E6) (H' := (mkH [])) (by kernel_rfl) ?_
    exact oT (r := ((3 : Int), fW .i64 (andI .u8 a0 15))) (xs := [.int .i64 3, .int .i64 (fW .i64 (andI .u8 a0 15))]) (v := .tuple [.int .i64 3, .int .i64 (fW .i64 (andI .u8 a0 15))]) (by kernel_rfl) (by kernel_rfl) (by kernel_rfl) (.pures (by kernel_rfl)) (by kernel_rfl)
   ·let E7 : Env := ((23, .bool (decide (shrC a0 3 = 30))) :: (26, .bool (decide (shrC a0 3 = 30))) :: (25, .int .u8 (shrC a0 3)) :: (24, .int .u8 a0) :: (16, .bool false) :: E5)
    refine oR 8 (p' := g91p12) (eE := E7) (H' := (mkH [])) (by kernel_rfl) ?_
    refine oK [0, 23] (eE := [(0, .int .u8 a0), (23, .bool (decide (shrC a0 3 = 30)))]) (by kernel_rfl) ?_
    refine oS 23 (b := decide (shrC a0 3 = 30)) (by kernel_rfl) (fun hb => ?_) (fun hb => ?_)
    ·let E8 : Env := [(3, .int .i64 (fW .i64 (andI .u8 a0 7))), (2, .int .i64 4), (29, .int .i64 (fW .i64 (andI .u8 a0 7))), (28, .int .u8 (andI .u8 a0 7)), (27, .int .u8 a0), (23, .bool true), (0, .int .u8 a0), (23, .bool (decide (shrC a0 3 = 30)))]
     refine oR 10 (p' := .fin) (eE := E8) (H' := (mkH [])) (by kernel_rfl) ?_
     exact oT (r := ((4 : Int), fW .i64 (andI .u8 a0 7))) (xs := [.int .i64 4, .int .i64 (fW .i64 (andI .u8 a0 7))]) (v := .tuple [.int .i64 4, .int .i64 (fW .i64 (andI .u8 a0 7))]) (by kernel_rfl) (by kernel_rfl) (by kernel_rfl) (.pures (by kernel_rfl)) (by kernel_rfl)
    ·let E9 : Env := [(3, .int .i64 0), (2, .int .i64 0), (23, .bool false), (0, .int .u8 a0), (23, .bool (decide (shrC a0 3 = 30)))]
     refine oR 8 (p' := .fin) (eE := E9) (H' := (mkH [])) (by kernel_rfl) ?_
     exact oT (r := ((0 : Int), (0 : Int))) (xs := [.int .i64 0, .int .i64 0]) (v := .tuple [.int .i64 0, .int .i64 0]) (by kernel_rfl) (by kernel_rfl) (by kernel_rfl) (.pures (by kernel_rfl)) (by kernel_rfl)
end
end Go.Proofs.Ytabhkocokojddaa.Am
set_option maxRecDepth 100000
set_option linter.unusedVariables false
namespace Go.Proofs.Ytabhkocokojddaa.Am
noncomputable section
open Go
def X92 : Fx Int := ⟨Try.prog, cx, Try.f92, fun r => .int .i64 r, 0, fun _ => H0, cxTi, cxOrd⟩
def g92c0 : List Int := [(0 : Int), (0 : Int), (128 : Int), (2048 : Int), (65536 : Int)]
def g92p0 : Pt := nav [0] (bodyAt Try.f92)
def g92p1 : Pt := nav [0, 0, 0] g92p0
def g92 (k : Nat) (a0 : Int) : Option Int :=
 (nthA g92c0 5 a0).bind fun x0_2 => some x0_2
theorem g92_ok (k : Nat) (a0 : Int) (r : Int) (h : g92 k a0 = some r) : PureOk Try.prog 92 [.int .i64 a0] (.int .i64 r) := by
 refine pure_of X92 (fun _ => rfl) Try.func92 (by decide +kernel) (by kernel_rfl) (t := g92 k a0) ?_ h
 unfold g92
 refine oE (eE := [(0, .int .i64 a0)]) (by kernel_rfl) ?_
 refine oR 8 (p' := (atN 2 (ctl1 g92p1))) (eE := [(4, .int .i64 a0), (3, .agg [.int .i64 0, .int .i64 0, .int .i64 128, .int .i64 2048, .int .i64 65536]), (2, .int .i64 0), (0, .int .i64 a0)]) (H' := (mkH [])) (by kernel_rfl) ?_
 refine oH (fun (x0_2 : Int) => (.int .i64 x0_2, (mkH []))) (atN 3 (ctl1 g92p1)) (fun x0_2 => [(5, .int .i64 x0_2), (4, .int .i64 a0), (3, .agg [.int .i64 0, .int .i64 0, .int .i64 128, .int .i64 2048, .int .i64 65536]), (2, .int .i64 0), (0, .int .i64 a0)]) (aidxH v3 g92c0 (by kernel_rfl)) (fun _ => by kernel_rfl) (fun x0_2 hx0_2 => ?_)
 let E1 : Env := [(2, .int .i64 x0_2), (5, .int .i64 x0_2), (4, .int .i64 a0), (3, .agg [.int .i64 0, .int .i64 0, .int .i64 128, .int .i64 2048, .int .i64 65536]), (2, .int .i64 0), (0, .int .i64 a0)]
 refine oR 3 (p' := .fin) (eE := E1) (H' := (mkH [])) (by kernel_rfl) ?_
 exact oT (r := x0_2) (xs := [.int .i64 x0_2]) (v := .int .i64 x0_2) (by kernel_rfl) (by kernel_rfl) (by kernel_rfl) (.pures (by kernel_rfl)) (by kernel_rfl)
end
end Go.Proofs.Ytabhkocokojddaa.Am
set_option maxRecDepth 100000
set_option linter.unusedVariables false
namespace Go.Proofs.Ytabhkocokojddaa.Am
noncomputable section
open Go
def X93 : Fx Bool := ⟨Try.prog, cx, Try.f93, fun r => .bool r, 0, fun _ => H0, cxTi, cxOrd⟩
def g93p0 : Pt := nav [0] (bodyAt Try.f93)
def g93p1 : Pt := nav [0, 0, 0] g93p0
def g93 (k : Nat) (a0 : Int) : Option Bool :=
 if (decide (0 ≤ a0)) then (if (decide (a0 ≤ 1114111)) then (some (!decide (shrC a0 11 = 27))) else (some false)) else (some false)
theorem g93_ok (k : Nat) (a0 : Int) (r : Bool) (h : g93 k a0 = some r) : PureOk Try.prog 93 [.int .i64 a0] (.bool r) := by
 refine pure_of X93 (fun _ => rfl) Try.func93 (by decide +kernel) (by kernel_rfl) (t := g93 k a0) ?_ h
 unfold g93
 refine oE (eE := [(0, .int .i64 a0)]) (by kernel_rfl) ?_
 let E1 : Env := [(5, .bool (decide (0 ≤ a0))), (4, .bool (decide (0 ≤ a0))), (3, .int .i64 a0), (2, .bool false), (0, .int .i64 a0)]
 refine oR 9 (p' := (atN 3 (ctl1 g93p1))) (eE := E1) (H' := (mkH [])) (by kernel_rfl) ?_
 refine oS 5 (b := decide (0 ≤ a0)) (by kernel_rfl) (fun hb => ?_) (fun hb => ?_)
 ·let E2 : Env := ((9, .bool (decide (a0 ≤ 1114111))) :: (8, .bool (decide (a0 ≤ 1114111))) :: (7, .bool (decide (a0 ≤ 1114111))) :: (6, .int .i64 a0) :: (5, .bool true) :: E1)
  refine oR 4 (p' := (atN 7 (ctl1 g93p1))) (eE := E2) (H' := (mkH [])) (by kernel_rfl) ?_
  refine oS 9 (b := decide (a0 ≤ 1114111)) (by kernel_rfl) (fun hb => ?_) (fun hb => ?_)
  ·let E3 : Env := ((2, .bool (!decide (shrC a0 11 = 27))) :: (13, .bool (!decide (shrC a0 11 = 27))) :: (12, .bool (!decide (shrC a0 11 = 27))) :: (11, .int .i64 (shrC a0 11)) :: (10, .int .i64 a0) :: (9, .bool true) :: E2)
   refine oR 7 (p' := .fin) (eE := E3) (H' := (mkH [])) (by kernel_rfl) ?_
   exact oT (r := (!decide (shrC a0 11 = 27))) (xs := [.bool (!decide (shrC a0 11 = 27))]) (v := .bool (!decide (shrC a0 11 = 27))) (by kernel_rfl) (by kernel_rfl) (by kernel_rfl) (.pures (by kernel_rfl)) (by kernel_rfl)
  ·let E4 : Env := ((2, .bool false) :: (13, .bool false) :: (12, .tuple []) :: (11, .tuple []) :: (10, .tuple []) :: (9, .bool false) :: E2)
   refine oR 7 (p' := .fin) (eE := E4) (H' := (mkH [])) (by kernel_rfl) ?_
   exact oT (r := false) (xs := [.bool false]) (v := .bool false) (by kernel_rfl) (by kernel_rfl) (by kernel_rfl) (.pures (by kernel_rfl)) (by kernel_rfl)
 ·let E5 : Env := ((2, .bool false) :: (13, .bool false) :: (12, .tuple []) :: (11, .tuple []) :: (10, .tuple []) :: (9, .bool false) :: (8, .bool false) :: (7, .tuple []) :: (6, .tuple []) :: (5, .bool false) :: E1)
  refine oR 11 (p' := .fin) (eE := E5) (H' := (mkH [])) (by kernel_rfl) ?_
  exact oT (r := false) (xs := [.bool false]) (v := .bool false) (by kernel_rfl) (by kernel_rfl) (by kernel_rfl) (.pures (by kernel_rfl)) (by kernel_rfl)
end
end Go.Proofs.Ytabhkocokojddaa.Am
set_option maxRecDepth 100000
set_option linter.unusedVariables false
namespace Go.Proofs.Ytabhkocokojddaa.Am
noncomputable section
open Go
def X78 : Fx (Int × Int) := ⟨Try.prog, cx, Try.f78, fun r => .tuple [.int .i64 r.1, .int .i64 r.2], 0, fun _ => H0, cxTi, cxOrd⟩
def g78p0 : Pt := nav [0] (bodyAt Try.f78)
def g78p1 : Pt := nav [0, 0, 0, 0] g78p0
def g78p2 : Pt := nav [0, 0] g78p1
def g78p4 : Pt := nav [2, 0, 0] g78p2
def g78p6 : Pt := nav [0, 0, 0, 0] g78p4
def g78p7 : Pt := nav [0, 0] g78p6
def g78p9 : Pt := nav [2, 0, 0, 0] g78p7
def g78p10 : Pt := nav [0, 0, 0, 0] g78p9
def g78p11 : Pt := nav [0, 0, 0] g78p10
def g78p12 : Pt := nav [0, 0] g78p11
def g78p13 : Pt := nav [1, 0, 0, 0, 0] g78p12
def g78p14 : Pt := nav [2, 0, 0, 0] g78p12
def g78p15 : Pt := nav [0, 0, 0, 0] g78p13
def g78p16 : Pt := nav [0, 0] g78p14
def g78p17 : Pt := nav [0, 0] g78p15
def g78p21 : Pt := nav [2, 0] g78p17
def g78p22 : Pt := nav [0, 0] g78p21
def g78_l5 (k : Nat)  (a0 : (List Nat)) (a1 : Int) (x0_3 : (Int × Int)) (n : Nat) : Int → Int → Option (Int × Int) :=
 Nat.rec (motive := fun _ => Int → Int → Option (Int × Int)) (fun _ _ => none) (fun _ ih => fun (y5_0 : Int) (y5_1 : Int) => if (decide (y5_1 < x0_3.1)) then ((nthS a0 (fW .i64 (a1 + y5_1))).bind fun x1_4 => if (!decide (shrC x1_4 6 = 2)) then (some (((-1) : Int), (1 : Int))) else (ih (orI .i64 (shlC .i64 y5_0 6) (fW .i64 (andI .u8 x1_4 63))) (fW .i64 (y5_1 + 1)))) else ((g92 k x0_3.1).bind fun x2_2 => jn (fun (z6 : Bool × Int) => if z6.1 then (some (((-1) : Int), (1 : Int))) else (some (z6.2, x0_3.1))) (fun j6 => if (decide (y5_0 < x2_2)) then (j6 (true, y5_0)) else ((g93 k y5_0).bind fun x2_6 => j6 (!x2_6, y5_0))))) n
theorem g78_l5_s (k : Nat)  (a0 : (List Nat)) (a1 : Int) (x0_3 : (Int × Int)) (n : Nat) (y5_0 : Int) (y5_1 : Int) : g78_l5 k a0 a1 x0_3 (n + 1) y5_0 y5_1 = (if (decide (y5_1 < x0_3.1)) then ((nthS a0 (fW .i64 (a1 + y5_1))).bind fun x1_4 => if (!decide (shrC x1_4 6 = 2)) then (some (((-1) : Int), (1 : Int))) else ((g78_l5 k a0 a1 x0_3 n) (orI .i64 (shlC .i64 y5_0 6) (fW .i64 (andI .u8 x1_4 63))) (fW .i64 (y5_1 + 1)))) else ((g92 k x0_3.1).bind fun x2_2 => jn (fun (z6 : Bool × Int) => if z6.1 then (some (((-1) : Int), (1 : Int))) else (some (z6.2, x0_3.1))) (fun j6 => if (decide (y5_0 < x2_2)) then (j6 (true, y5_0)) else ((g93 k y5_0).bind fun x2_6 => j6 (!x2_6, y5_0))))) := rfl
theorem g78_l5_ok (k : Nat)  (a0 : (List Nat)) (a1 : Int) (x0_3 : (Int × Int))  : ∀ (n : Nat) (y5_0 : Int) (y5_1 : Int), Ok X78 g78p10 [(0, .str a0), (1, .int .i64 a1), (6, .int .i64 x0_3.1), (7, .int .i64 y5_0), (8, .int .i64 y5_1)] (mkH []) (g78_l5 k a0 a1 x0_3 n y5_0 y5_1)
 | 0, _, _ => ok_none
 | n + 1, y5_0, y5_1 => by
  have ih := g78_l5_ok k a0 a1 x0_3 n
  rw [g78_l5_s]
  refine ok_ent (p' := nav [0] g78p10) (by kernel_rfl) ?_
  let E8 : Env := [(37, .bool (decide (y5_1 < x0_3.1))), (36, .int .i64 x0_3.1), (35, .int .i64 y5_1), (0, .str a0), (1, .int .i64 a1), (6, .int .i64 x0_3.1), (7, .int .i64 y5_0), (8, .int .i64 y5_1)]
  refine oR 7 (p' := g78p12) (eE := E8) (H' := (mkH [])) (by kernel_rfl) ?_
  refine oS 37 (b := decide (y5_1 < x0_3.1)) (by kernel_rfl) (fun hb => ?_) (fun hb => ?_)
  ·let E9 : Env := ((43, .int .i64 (fW .i64 (a1 + y5_1))) :: (42, .int .i64 y5_1) :: (41, .int .i64 a1) :: (40, .str a0) :: (37, .bool true) :: E8)
   refine oR 10 (p' := (atN 4 (ctl1 g78p13))) (eE := E9) (H' := (mkH [])) (by kernel_rfl) ?_
   refine oH (fun (x1_4 : Int) => (.int .u8 x1_4, (mkH []))) (atN 5 (ctl1 g78p13)) (fun x1_4 => ((44, .int .u8 x1_4) :: E9)) (idxH (by kernel_rfl)) (fun _ => by kernel_rfl) (fun x1_4 hx1_4 => ?_)
   refine oR 4 (p' := g78p15) (eE := ((9, .int .u8 x1_4) :: (44, .int .u8 x1_4) :: E9)) (H' := (mkH [])) (by kernel_rfl) ?_
   refine oK [0, 1, 6, 7, 8, 9] (eE := [(0, .str a0), (1, .int .i64 a1), (6, .int .i64 x0_3.1), (7, .int .i64 y5_0), (8, .int .i64 y5_1), (9, .int .u8 x1_4)]) (by kernel_rfl) ?_
   let E10 : Env := [(47, .bool (!decide (shrC x1_4 6 = 2))), (46, .int .u8 (shrC x1_4 6)), (45, .int .u8 x1_4), (0, .str a0), (1, .int .i64 a1), (6, .int .i64 x0_3.1), (7, .int .i64 y5_0), (8, .int .i64 y5_1), (9, .int .u8 x1_4)]
   refine oR 5 (p' := g78p17) (eE := E10) (H' := (mkH [])) (by kernel_rfl) ?_
   refine oS 47 (b := !decide (shrC x1_4 6 = 2)) (by kernel_rfl) (fun hb => ?_) (fun hb => ?_)
   ·refine oR 7 (p' := .fin) (eE := ((5, .int .i64 1) :: (4, .int .i64 (-1)) :: (47, .bool true) :: E10)) (H' := (mkH [])) (by kernel_rfl) ?_
    exact oT (r := (((-1) : Int), (1 : Int))) (xs := [.int .i64 (-1), .int .i64 1]) (v := .tuple [.int .i64 (-1), .int .i64 1]) (by kernel_rfl) (by kernel_rfl) (by kernel_rfl) (.pures (by kernel_rfl)) (by kernel_rfl)
   ·let E11 : Env := ((7, .int .i64 (orI .i64 (shlC .i64 y5_0 6) (fW .i64 (andI .u8 x1_4 63)))) :: (53, .int .i64 (orI .i64 (shlC .i64 y5_0 6) (fW .i64 (andI .u8 x1_4 63)))) :: (52, .int .i64 (fW .i64 (andI .u8 x1_4 63))) :: (51, .int .u8 (andI .u8 x1_4 63)) :: (50, .int .u8 x1_4) :: (49, .int .i64 (shlC .i64 y5_0 6)) :: (48, .int .i64 y5_0) :: (47, .bool false) :: E10)
    refine oR 11 (p' := g78p22) (eE := E11) (H' := (mkH [])) (by kernel_rfl) ?_
    refine oK [0, 1, 6, 7, 8] (eE := [(0, .str a0), (1, .int .i64 a1), (6, .int .i64 x0_3.1), (7, .int .i64 (orI .i64 (shlC .i64 y5_0 6) (fW .i64 (andI .u8 x1_4 63)))), (8, .int .i64 y5_1)]) (by kernel_rfl) ?_
    let E12 : Env := [(8, .int .i64 (fW .i64 (y5_1 + 1))), (39, .int .i64 (fW .i64 (y5_1 + 1))), (38, .int .i64 y5_1), (0, .str a0), (1, .int .i64 a1), (6, .int .i64 x0_3.1), (7, .int .i64 (orI .i64 (shlC .i64 y5_0 6) (fW .i64 (andI .u8 x1_4 63)))), (8, .int .i64 y5_1)]
    refine oR 5 (p' := g78p10) (eE := E12) (H' := (mkH [])) (by kernel_rfl) ?_
    refine oK [0, 1, 6, 7, 8] (eE := [(0, .str a0), (1, .int .i64 a1), (6, .int .i64 x0_3.1), (7, .int .i64 (orI .i64 (shlC .i64 y5_0 6) (fW .i64 (andI .u8 x1_4 63)))), (8, .int .i64 (fW .i64 (y5_1 + 1)))]) (by kernel_rfl) ?_
    exact ih (orI .i64 (shlC .i64 y5_0 6) (fW .i64 (andI .u8 x1_4 63))) (fW .i64 (y5_1 + 1))
  ·refine oR 7 (p' := (atN 2 (ctl1 g78p14))) (eE := ((55, .int .i64 x0_3.1) :: (54, .int .i64 y5_0) :: (37, .bool false) :: E8)) (H' := (mkH [])) (by kernel_rfl) ?_
   refine oC (fun (x2_2 : Int) => .int .i64 x2_2) (atN 3 (ctl1 g78p14)) (fun x2_2 => ((56, .int .i64 x2_2) :: (55, .int .i64 x0_3.1) :: (54, .int .i64 y5_0) :: (37, .bool false) :: E8)) (fi := 92) (args := [.int .i64 x0_3.1]) (by kernel_rfl) (by kernel_rfl) (fun _ => by kernel_rfl) (fun r h => g92_ok k x0_3.1 r h) (fun _ => by kernel_rfl) (fun x2_2 hx2_2 => ?_)
   let E13 : Env := ((58, .bool (decide (y5_0 < x2_2))) :: (57, .bool (decide (y5_0 < x2_2))) :: (56, .int .i64 x2_2) :: (55, .int .i64 x0_3.1) :: (54, .int .i64 y5_0) :: (37, .bool false) :: E8)
   refine oR 2 (p' := (atN 5 (ctl1 g78p14))) (eE := E13) (H' := (mkH [])) (by kernel_rfl) ?_
   refine oJ (f := fun (z6 : Bool × Int) => if z6.1 then (some (((-1) : Int), (1 : Int))) else (some (z6.2, x0_3.1))) g78p16 (fun (z6 : Bool × Int) => [(6, .int .i64 x0_3.1), (7, .int .i64 z6.2), (62, .bool z6.1)]) (fun (z6 : Bool × Int) => (mkH [])) (fun z6 => ?_) (fun j6 hj6 => ?_)
   ·refine oS 62 (b := z6.1) (by kernel_rfl) (fun hb => ?_) (fun hb => ?_)
    ·let E14 : Env := [(5, .int .i64 1), (4, .int .i64 (-1)), (62, .bool true), (6, .int .i64 x0_3.1), (7, .int .i64 z6.2), (62, .bool z6.1)]
     refine oR 7 (p' := .fin) (eE := E14) (H' := (mkH [])) (by kernel_rfl) ?_
     exact oT (r := (((-1) : Int), (1 : Int))) (xs := [.int .i64 (-1), .int .i64 1]) (v := .tuple [.int .i64 (-1), .int .i64 1]) (by kernel_rfl) (by kernel_rfl) (by kernel_rfl) (.pures (by kernel_rfl)) (by kernel_rfl)
    ·let E15 : Env := [(5, .int .i64 x0_3.1), (4, .int .i64 z6.2), (64, .int .i64 x0_3.1), (63, .int .i64 z6.2), (62, .bool false), (6, .int .i64 x0_3.1), (7, .int .i64 z6.2), (62, .bool z6.1)]
     refine oR 10 (p' := .fin) (eE := E15) (H' := (mkH [])) (by kernel_rfl) ?_
     exact oT (r := (z6.2, x0_3.1)) (xs := [.int .i64 z6.2, .int .i64 x0_3.1]) (v := .tuple [.int .i64 z6.2, .int .i64 x0_3.1]) (by kernel_rfl) (by kernel_rfl) (by kernel_rfl) (.pures (by kernel_rfl)) (by kernel_rfl)
   ·refine oS 58 (b := decide (y5_0 < x2_2)) (by kernel_rfl) (fun hb => ?_) (fun hb => ?_)
    ·let E16 : Env := ((62, .bool true) :: (61, .tuple []) :: (60, .tuple []) :: (59, .tuple []) :: (58, .bool true) :: E13)
     refine oR 5 (p' := g78p16) (eE := E16) (H' := (mkH [])) (by kernel_rfl) ?_
     refine oK [6, 7, 62] (eE := [(6, .int .i64 x0_3.1), (7, .int .i64 y5_0), (62, .bool true)]) (by kernel_rfl) ?_
     exact hj6 (true, y5_0)
    ·refine oR 1 (p' := (atN 6 (ctl1 g78p14))) (eE := ((59, .int .i64 y5_0) :: (58, .bool false) :: E13)) (H' := (mkH [])) (by kernel_rfl) ?_
     refine oC (fun (x2_6 : Bool) => .bool x2_6) (atN 7 (ctl1 g78p14)) (fun x2_6 => ((60, .bool x2_6) :: (59, .int .i64 y5_0) :: (58, .bool false) :: E13)) (fi := 93) (args := [.int .i64 y5_0]) (by kernel_rfl) (by kernel_rfl) (fun _ => by kernel_rfl) (fun r h => g93_ok k y5_0 r h) (fun _ => by kernel_rfl) (fun x2_6 hx2_6 => ?_)
     let E17 : Env := ((62, .bool (!x2_6)) :: (61, .bool (!x2_6)) :: (60, .bool x2_6) :: (59, .int .i64 y5_0) :: (58, .bool false) :: E13)
     refine oR 3 (p' := g78p16) (eE := E17) (H' := (mkH [])) (by kernel_rfl) ?_
     refine oK [6, 7, 62] (eE := [(6, .int .i64 x0_3.1), (7, .int .i64 y5_0), (62, .bool (!x2_6))]) (by kernel_rfl) ?_
     exact hj6 (!x2_6, y5_0)
def g78 (k : Nat) (a0 : (List Nat)) (a1 : Int) : Option (Int × Int) :=
 jn (fun (z3 : Bool) => if z3 then (some ((0 : Int), (0 : Int))) else ((nthS a0 a1).bind fun x0_2 => (g91 k x0_2).bind fun x0_3 => jn (fun (z4 : Bool) => if z4 then (some (((-1) : Int), (1 : Int))) else (g78_l5 k a0 a1 x0_3 k x0_3.2 1)) (fun j4 => if (decide (x0_3.1 = 0)) then (j4 true) else (j4 (decide (fW .i64 ((a0.length : Int) - a1) < x0_3.1)))))) (fun j3 => if (decide (a1 < 0)) then (j3 true) else (j3 (decide ((a0.length : Int) ≤ a1))))
theorem g78_ok (k : Nat) (a0 : (List Nat)) (a1 : Int) (r : (Int × Int)) (h : g78 k a0 a1 = some r) : PureOk Try.prog 78 [.str a0, .int .i64 a1] (.tuple [.int .i64 r.1, .int .i64 r.2]) := by
 refine pure_of X78 (fun _ => rfl) Try.func78 (by decide +kernel) (by kernel_rfl) (t := g78 k a0 a1) ?_ h
 unfold g78
 refine oE (eE := [(0, .str a0), (1, .int .i64 a1)]) (by kernel_rfl) ?_
 let E1 : Env := [(12, .bool (decide (a1 < 0))), (11, .bool (decide (a1 < 0))), (10, .int .i64 a1), (5, .int .i64 0), (4, .int .i64 0), (0, .str a0), (1, .int .i64 a1)]
 refine oR 11 (p' := (atN 3 (ctl1 g78p1))) (eE := E1) (H' := (mkH [])) (by kernel_rfl) ?_
 refine oJ (f := fun (z3 : Bool) => if z3 then (some ((0 : Int), (0 : Int))) else ((nthS a0 a1).bind fun x0_2 => (g91 k x0_2).bind fun x0_3 => jn (fun (z4 : Bool) => if z4 then (some (((-1) : Int), (1 : Int))) else (g78_l5 k a0 a1 x0_3 k x0_3.2 1)) (fun j4 => if (decide (x0_3.1 = 0)) then (j4 true) else (j4 (decide (fW .i64 ((a0.length : Int) - a1) < x0_3.1)))))) g78p2 (fun (z3 : Bool) => [(0, .str a0), (1, .int .i64 a1), (17, .bool z3)]) (fun (z3 : Bool) => (mkH [])) (fun z3 => ?_) (fun j3 hj3 => ?_)
 ·refine oS 17 (b := z3) (by kernel_rfl) (fun hb => ?_) (fun hb => ?_)
  ·let E2 : Env := [(5, .int .i64 0), (4, .int .i64 0), (17, .bool true), (0, .str a0), (1, .int .i64 a1), (17, .bool z3)]
   refine oR 7 (p' := .fin) (eE := E2) (H' := (mkH [])) (by kernel_rfl) ?_
   exact oT (r := ((0 : Int), (0 : Int))) (xs := [.int .i64 0, .int .i64 0]) (v := .tuple [.int .i64 0, .int .i64 0]) (by kernel_rfl) (by kernel_rfl) (by kernel_rfl) (.pures (by kernel_rfl)) (by kernel_rfl)
  ·let E3 : Env := [(20, .int .i64 a1), (19, .str a0), (17, .bool false), (0, .str a0), (1, .int .i64 a1), (17, .bool z3)]
   refine oR 6 (p' := (atN 2 (ctl1 g78p4))) (eE := E3) (H' := (mkH [])) (by kernel_rfl) ?_
   refine oH (fun (x0_2 : Int) => (.int .u8 x0_2, (mkH []))) (atN 3 (ctl1 g78p4)) (fun x0_2 => ((21, .int .u8 x0_2) :: E3)) (idxH (by kernel_rfl)) (fun _ => by kernel_rfl) (fun x0_2 hx0_2 => ?_)
   refine oC (fun (x0_3 : (Int × Int)) => .tuple [.int .i64 x0_3.1, .int .i64 x0_3.2]) (atN 4 (ctl1 g78p4)) (fun x0_3 => ((22, .tuple [.int .i64 x0_3.1, .int .i64 x0_3.2]) :: (21, .int .u8 x0_2) :: E3)) (fi := 91) (args := [.int .u8 x0_2]) (by kernel_rfl) (by kernel_rfl) (fun _ => by kernel_rfl) (fun r h => g91_ok k x0_2 r h) (fun _ => by kernel_rfl) (fun x0_3 hx0_3 => ?_)
   let E4 : Env := ((7, .int .i64 x0_3.2) :: (6, .int .i64 x0_3.1) :: (24, .int .i64 x0_3.2) :: (23, .int .i64 x0_3.1) :: (18, .tuple [.int .i64 x0_3.1, .int .i64 x0_3.2]) :: (22, .tuple [.int .i64 x0_3.1, .int .i64 x0_3.2]) :: (21, .int .u8 x0_2) :: E3)
   refine oR 8 (p' := g78p6) (eE := E4) (H' := (mkH [])) (by kernel_rfl) ?_
   refine oK [0, 1, 6, 7] (eE := [(0, .str a0), (1, .int .i64 a1), (6, .int .i64 x0_3.1), (7, .int .i64 x0_3.2)]) (by kernel_rfl) ?_
   let E5 : Env := [(27, .bool (decide (x0_3.1 = 0))), (26, .bool (decide (x0_3.1 = 0))), (25, .int .i64 x0_3.1), (0, .str a0), (1, .int .i64 a1), (6, .int .i64 x0_3.1), (7, .int .i64 x0_3.2)]
   refine oR 4 (p' := (atN 3 (ctl1 g78p6))) (eE := E5) (H' := (mkH [])) (by kernel_rfl) ?_
   refine oJ (f := fun (z4 : Bool) => if z4 then (some (((-1) : Int), (1 : Int))) else (g78_l5 k a0 a1 x0_3 k x0_3.2 1)) g78p7 (fun (z4 : Bool) => [(0, .str a0), (1, .int .i64 a1), (6, .int .i64 x0_3.1), (7, .int .i64 x0_3.2), (34, .bool z4)]) (fun (z4 : Bool) => (mkH [])) (fun z4 => ?_) (fun j4 hj4 => ?_)
   ·refine oS 34 (b := z4) (by kernel_rfl) (fun hb => ?_) (fun hb => ?_)
    ·let E6 : Env := [(5, .int .i64 1), (4, .int .i64 (-1)), (34, .bool true), (0, .str a0), (1, .int .i64 a1), (6, .int .i64 x0_3.1), (7, .int .i64 x0_3.2), (34, .bool z4)]
     refine oR 7 (p' := .fin) (eE := E6) (H' := (mkH [])) (by kernel_rfl) ?_
     exact oT (r := (((-1) : Int), (1 : Int))) (xs := [.int .i64 (-1), .int .i64 1]) (v := .tuple [.int .i64 (-1), .int .i64 1]) (by kernel_rfl) (by kernel_rfl) (by kernel_rfl) (.pures (by kernel_rfl)) (by kernel_rfl)
    ·let E7 : Env := [(8, .int .i64 1), (34, .bool false), (0, .str a0), (1, .int .i64 a1), (6, .int .i64 x0_3.1), (7, .int .i64 x0_3.2), (34, .bool z4)]
     refine oR 9 (p' := g78p10) (eE := E7) (H' := (mkH [])) (by kernel_rfl) ?_
     refine oK [0, 1, 6, 7, 8] (eE := [(0, .str a0), (1, .int .i64 a1), (6, .int .i64 x0_3.1), (7, .int .i64 x0_3.2), (8, .int .i64 1)]) (by kernel_rfl) ?_
     exact (g78_l5_ok k a0 a1 x0_3 k) x0_3.2 1
   ·refine oS 27 (b := decide (x0_3.1 = 0)) (by kernel_rfl) (fun hb => ?_) (fun hb => ?_)
    ·let E18 : Env := ((34, .bool true) :: (33, .tuple []) :: (32, .tuple []) :: (31, .tuple []) :: (30, .tuple []) :: (29, .tuple []) :: (28, .tuple []) :: (27, .bool true) :: E5)
     refine oR 8 (p' := g78p7) (eE := E18) (H' := (mkH [])) (by kernel_rfl) ?_
     refine oK [0, 1, 6, 7, 34] (eE := [(0, .str a0), (1, .int .i64 a1), (6, .int .i64 x0_3.1), (7, .int .i64 x0_3.2), (34, .bool true)]) (by kernel_rfl) ?_
     exact hj4 true
    ·let E19 : Env := ((34, .bool (decide (fW .i64 ((a0.length : Int) - a1) < x0_3.1))) :: (33, .bool (decide (fW .i64 ((a0.length : Int) - a1) < x0_3.1))) :: (32, .int .i64 (fW .i64 ((a0.length : Int) - a1))) :: (31, .int .i64 a1) :: (30, .int .i64 (a0.length : Int)) :: (29, .str a0) :: (28, .int .i64 x0_3.1) :: (27, .bool false) :: E5)
     refine oR 8 (p' := g78p7) (eE := E19) (H' := (mkH [])) (by kernel_rfl) ?_
     refine oK [0, 1, 6, 7, 34] (eE := [(0, .str a0), (1, .int .i64 a1), (6, .int .i64 x0_3.1), (7, .int .i64 x0_3.2), (34, .bool (decide (fW .i64 ((a0.length : Int) - a1) < x0_3.1)))]) (by kernel_rfl) ?_
     exact hj4 (decide (fW .i64 ((a0.length : Int) - a1) < x0_3.1))
 ·refine oS 12 (b := decide (a1 < 0)) (by kernel_rfl) (fun hb => ?_) (fun hb => ?_)
  ·let E20 : Env := ((17, .bool true) :: (16, .tuple []) :: (15, .tuple []) :: (14, .tuple []) :: (13, .tuple []) :: (12, .bool true) :: E1)
   refine oR 6 (p' := g78p2) (eE := E20) (H' := (mkH [])) (by kernel_rfl) ?_
   refine oK [0, 1, 17] (eE := [(0, .str a0), (1, .int .i64 a1), (17, .bool true)]) (by kernel_rfl) ?_
   exact hj3 true
  ·let E21 : Env := ((17, .bool (decide ((a0.length : Int) ≤ a1))) :: (16, .bool (decide ((a0.length : Int) ≤ a1))) :: (15, .int .i64 (a0.length : Int)) :: (14, .str a0) :: (13, .int .i64 a1) :: (12, .bool false) :: E1)
   refine oR 6 (p' := g78p2) (eE := E21) (H' := (mkH [])) (by kernel_rfl) ?_
   refine oK [0, 1, 17] (eE := [(0, .str a0), (1, .int .i64 a1), (17, .bool (decide ((a0.length : Int) ≤ a1)))]) (by kernel_rfl) ?_
   exact hj3 (decide ((a0.length : Int) ≤ a1))
end
end Go.Proofs.Ytabhkocokojddaa.Am
set_option maxRecDepth 100000
set_option linter.unusedVariables false
namespace Go.Proofs.Ytabhkocokojddaa.Am
noncomputable section
open Go
def X82 : Fx Bool := ⟨Try.prog, cx, Try.f82, fun r => .bool r, 0, fun _ => H0, cxTi, cxOrd⟩
def g82p0 : Pt := nav [0] (bodyAt Try.f82)
def g82p1 : Pt := nav [0, 0, 0] g82p0
def g82 (k : Nat) (a0 : Int) : Option Bool :=
 if (decide (0 ≤ a0)) then (if (decide (a0 ≤ 1114111)) then (if (decide (a0 < 55296)) then (some true) else (some (decide (57343 < a0)))) else (some false)) else (some false)
theorem g82_ok (k : Nat) (a0 : Int) (r : Bool) (h : g82 k a0 = some r) : PureOk Try.prog 82 [.int .i64 a0] (.bool r) := by
 refine pure_of X82 (fun _ => rfl) Try.func82 (by decide +kernel) (by kernel_rfl) (t := g82 k a0) ?_ h
 unfold g82
 refine oE (eE := [(0, .int .i64 a0)]) (by kernel_rfl) ?_
 let E1 : Env := [(5, .bool (decide (0 ≤ a0))), (4, .bool (decide (0 ≤ a0))), (3, .int .i64 a0), (2, .bool false), (0, .int .i64 a0)]
 refine oR 9 (p' := (atN 3 (ctl1 g82p1))) (eE := E1) (H' := (mkH [])) (by kernel_rfl) ?_
 refine oS 5 (b := decide (0 ≤ a0)) (by kernel_rfl) (fun hb => ?_) (fun hb => ?_)
 ·let E2 : Env := ((9, .bool (decide (a0 ≤ 1114111))) :: (8, .bool (decide (a0 ≤ 1114111))) :: (7, .bool (decide (a0 ≤ 1114111))) :: (6, .int .i64 a0) :: (5, .bool true) :: E1)
  refine oR 4 (p' := (atN 7 (ctl1 g82p1))) (eE := E2) (H' := (mkH [])) (by kernel_rfl) ?_
  refine oS 9 (b := decide (a0 ≤ 1114111)) (by kernel_rfl) (fun hb => ?_) (fun hb => ?_)
  ·refine oR 3 (p' := (atN 10 (ctl1 g82p1))) (eE := ((12, .bool (decide (a0 < 55296))) :: (11, .bool (decide (a0 < 55296))) :: (10, .int .i64 a0) :: (9, .bool true) :: E2)) (H' := (mkH [])) (by kernel_rfl) ?_
   refine oS 12 (b := decide (a0 < 55296)) (by kernel_rfl) (fun hb => ?_) (fun hb => ?_)
   ·let E3 : Env := ((2, .bool true) :: (16, .bool true) :: (15, .bool true) :: (14, .tuple []) :: (13, .tuple []) :: (12, .bool true) :: (12, .bool (decide (a0 < 55296))) :: (11, .bool (decide (a0 < 55296))) :: (10, .int .i64 a0) :: (9, .bool true) :: E2)
    refine oR 7 (p' := .fin) (eE := E3) (H' := (mkH [])) (by kernel_rfl) ?_
    exact oT (r := true) (xs := [.bool true]) (v := .bool true) (by kernel_rfl) (by kernel_rfl) (by kernel_rfl) (.pures (by kernel_rfl)) (by kernel_rfl)
   ·let E4 : Env := ((2, .bool (decide (57343 < a0))) :: (16, .bool (decide (57343 < a0))) :: (15, .bool (decide (57343 < a0))) :: (14, .bool (decide (57343 < a0))) :: (13, .int .i64 a0) :: (12, .bool false) :: (12, .bool (decide (a0 < 55296))) :: (11, .bool (decide (a0 < 55296))) :: (10, .int .i64 a0) :: (9, .bool true) :: E2)
    refine oR 7 (p' := .fin) (eE := E4) (H' := (mkH [])) (by kernel_rfl) ?_
    exact oT (r := (decide (57343 < a0))) (xs := [.bool (decide (57343 < a0))]) (v := .bool (decide (57343 < a0))) (by kernel_rfl) (by kernel_rfl) (by kernel_rfl) (.pures (by kernel_rfl)) (by kernel_rfl)
  ·let E5 : Env := ((2, .bool false) :: (16, .bool false) :: (15, .tuple []) :: (14, .tuple []) :: (13, .tuple []) :: (12, .tuple []) :: (11, .tuple []) :: (10, .tuple []) :: (9, .bool false) :: E2)
   refine oR 10 (p' := .fin) (eE := E5) (H' := (mkH [])) (by kernel_rfl) ?_
   exact oT (r := false) (xs := [.bool false]) (v := .bool false) (by kernel_rfl) (by kernel_rfl) (by kernel_rfl) (.pures (by kernel_rfl)) (by kernel_rfl)
 ·let E6 : Env := ((2, .bool false) :: (16, .bool false) :: (15, .tuple []) :: (14, .tuple []) :: (13, .tuple []) :: (12, .tuple []) :: (11, .tuple []) :: (10, .tuple []) :: (9, .bool false) :: (8, .bool false) :: (7, .tuple []) :: (6, .tuple []) :: (5, .bool false) :: E1)
  refine oR 14 (p' := .fin) (eE := E6) (H' := (mkH [])) (by kernel_rfl) ?_
  exact oT (r := false) (xs := [.bool false]) (v := .bool false) (by kernel_rfl) (by kernel_rfl) (by kernel_rfl) (.pures (by kernel_rfl)) (by kernel_rfl)
end
end Go.Proofs.Ytabhkocokojddaa.Am
set_option maxRecDepth 100000
set_option linter.unusedVariables false
namespace Go.Proofs.Ytabhkocokojddaa.Am
noncomputable section
open Go
def X72 : Fx (Int × Int) := ⟨Try.prog, cx, Try.f72, fun r => .tuple [.int .i64 r.1, .int .i64 r.2], 0, fun _ => H0, cxTi, cxOrd⟩
def g72p0 : Pt := nav [0] (bodyAt Try.f72)
def g72p1 : Pt := nav [0, 0, 0, 0] g72p0
def g72p2 : Pt := nav [0, 0] g72p1
def g72p4 : Pt := nav [2, 0, 0] g72p2
def g72p6 : Pt := nav [0, 0, 0] g72p4
def g72p7 : Pt := nav [0, 0, 0, 0, 0] g72p6
def g72p8 : Pt := nav [0, 0] g72p7
def g72p10 : Pt := nav [2, 0] g72p8
def g72p11 : Pt := nav [0, 0] g72p10
def g72p12 : Pt := nav [1] g72p11
def g72p13 : Pt := nav [2, 0] g72p11
def g72p14 : Pt := nav [0, 0, 0, 0] g72p12
def g72p15 : Pt := nav [0, 0] g72p13
def g72p16 : Pt := nav [0, 0] g72p14
def g72p18 : Pt := nav [2, 0] g72p15
def g72p20 : Pt := nav [2, 0, 0, 0] g72p16
def g72p21 : Pt := nav [0, 0] g72p18
def g72p22 : Pt := nav [0, 0, 0, 0] g72p20
def g72p25 : Pt := nav [0, 0, 0] g72p22
def g72p26 : Pt := nav [0, 0] g72p25
def g72p27 : Pt := nav [1, 0, 0, 0, 0, 0] g72p26
def g72p28 : Pt := nav [2, 0, 0, 0] g72p26
def g72p29 : Pt := nav [0, 0] g72p27
def g72p30 : Pt := nav [0, 0] g72p28
def g72p32 : Pt := nav [2, 0] g72p29
def g72p35 : Pt := nav [0, 0] g72p32
def g72_l9 (k : Nat)  (a0 : (List Nat)) (a1 : Int) (z6 : Int × Int × Int) (n : Nat) : Int → Int → Option (Int × Int) :=
 Nat.rec (motive := fun _ => Int → Int → Option (Int × Int)) (fun _ _ => none) (fun _ ih => fun (y9_0 : Int) (y9_1 : Int) => if (decide (y9_1 < z6.2.1)) then ((nthS a0 (fW .i64 (a1 + y9_1))).bind fun x1_4 => if (!decide (andI .u8 x1_4 192 = 128)) then (some (((-1) : Int), (1 : Int))) else ((nthS a0 (fW .i64 (a1 + y9_1))).bind fun x2_6 => ih (fW .i64 (fW .i64 (y9_0 * 64) + fW .i64 (andI .u8 x2_6 63))) (fW .i64 (y9_1 + 1)))) else (jn (fun (z10 : Bool × Int) => if z10.1 then (some (((-1) : Int), (1 : Int))) else (some (z10.2, z6.2.1))) (fun j10 => if (decide (y9_0 < z6.2.2)) then (j10 (true, y9_0)) else ((g82 k y9_0).bind fun x3_5 => j10 (!x3_5, y9_0))))) n
theorem g72_l9_s (k : Nat)  (a0 : (List Nat)) (a1 : Int) (z6 : Int × Int × Int) (n : Nat) (y9_0 : Int) (y9_1 : Int) : g72_l9 k a0 a1 z6 (n + 1) y9_0 y9_1 = (if (decide (y9_1 < z6.2.1)) then ((nthS a0 (fW .i64 (a1 + y9_1))).bind fun x1_4 => if (!decide (andI .u8 x1_4 192 = 128)) then (some (((-1) : Int), (1 : Int))) else ((nthS a0 (fW .i64 (a1 + y9_1))).bind fun x2_6 => (g72_l9 k a0 a1 z6 n) (fW .i64 (fW .i64 (y9_0 * 64) + fW .i64 (andI .u8 x2_6 63))) (fW .i64 (y9_1 + 1)))) else (jn (fun (z10 : Bool × Int) => if z10.1 then (some (((-1) : Int), (1 : Int))) else (some (z10.2, z6.2.1))) (fun j10 => if (decide (y9_0 < z6.2.2)) then (j10 (true, y9_0)) else ((g82 k y9_0).bind fun x3_5 => j10 (!x3_5, y9_0))))) := rfl
theorem g72_l9_ok (k : Nat)  (a0 : (List Nat)) (a1 : Int) (z6 : Int × Int × Int)  : ∀ (n : Nat) (y9_0 : Int) (y9_1 : Int), Ok X72 g72p22 [(0, .str a0), (1, .int .i64 a1), (6, .int .i64 y9_0), (7, .int .i64 z6.2.1), (8, .int .i64 z6.2.2), (9, .int .i64 y9_1)] (mkH []) (g72_l9 k a0 a1 z6 n y9_0 y9_1)
 | 0, _, _ => ok_none
 | n + 1, y9_0, y9_1 => by
  have ih := g72_l9_ok k a0 a1 z6 n
  rw [g72_l9_s]
  refine ok_ent (p' := nav [0] g72p22) (by kernel_rfl) ?_
  let E7 : Env := [(61, .bool (decide (y9_1 < z6.2.1))), (60, .int .i64 z6.2.1), (59, .int .i64 y9_1), (0, .str a0), (1, .int .i64 a1), (6, .int .i64 y9_0), (7, .int .i64 z6.2.1), (8, .int .i64 z6.2.2), (9, .int .i64 y9_1)]
  refine oR 7 (p' := g72p26) (eE := E7) (H' := (mkH [])) (by kernel_rfl) ?_
  refine oS 61 (b := decide (y9_1 < z6.2.1)) (by kernel_rfl) (fun hb => ?_) (fun hb => ?_)
  ·let E8 : Env := ((67, .int .i64 (fW .i64 (a1 + y9_1))) :: (66, .int .i64 y9_1) :: (65, .int .i64 a1) :: (64, .str a0) :: (61, .bool true) :: E7)
   refine oR 11 (p' := (atN 4 (ctl1 g72p27))) (eE := E8) (H' := (mkH [])) (by kernel_rfl) ?_
   refine oH (fun (x1_4 : Int) => (.int .u8 x1_4, (mkH []))) (atN 5 (ctl1 g72p27)) (fun x1_4 => ((68, .int .u8 x1_4) :: E8)) (idxH (by kernel_rfl)) (fun _ => by kernel_rfl) (fun x1_4 hx1_4 => ?_)
   refine oR 3 (p' := g72p29) (eE := ((70, .bool (!decide (andI .u8 x1_4 192 = 128))) :: (69, .int .u8 (andI .u8 x1_4 192)) :: (68, .int .u8 x1_4) :: E8)) (H' := (mkH [])) (by kernel_rfl) ?_
   refine oK [0, 1, 6, 7, 8, 9, 70] (eE := [(0, .str a0), (1, .int .i64 a1), (6, .int .i64 y9_0), (7, .int .i64 z6.2.1), (8, .int .i64 z6.2.2), (9, .int .i64 y9_1), (70, .bool (!decide (andI .u8 x1_4 192 = 128)))]) (by kernel_rfl) ?_
   refine oS 70 (b := !decide (andI .u8 x1_4 192 = 128)) (by kernel_rfl) (fun hb => ?_) (fun hb => ?_)
   ·let E9 : Env := [(5, .int .i64 1), (4, .int .i64 (-1)), (70, .bool true), (0, .str a0), (1, .int .i64 a1), (6, .int .i64 y9_0), (7, .int .i64 z6.2.1), (8, .int .i64 z6.2.2), (9, .int .i64 y9_1), (70, .bool (!decide (andI .u8 x1_4 192 = 128)))]
    refine oR 7 (p' := .fin) (eE := E9) (H' := (mkH [])) (by kernel_rfl) ?_
    exact oT (r := (((-1) : Int), (1 : Int))) (xs := [.int .i64 (-1), .int .i64 1]) (v := .tuple [.int .i64 (-1), .int .i64 1]) (by kernel_rfl) (by kernel_rfl) (by kernel_rfl) (.pures (by kernel_rfl)) (by kernel_rfl)
   ·let E10 : Env := [(76, .int .i64 (fW .i64 (a1 + y9_1))), (75, .int .i64 y9_1), (74, .int .i64 a1), (73, .str a0), (72, .int .i64 (fW .i64 (y9_0 * 64))), (71, .int .i64 y9_0), (70, .bool false), (0, .str a0), (1, .int .i64 a1), (6, .int .i64 y9_0), (7, .int .i64 z6.2.1), (8, .int .i64 z6.2.2), (9, .int .i64 y9_1), (70, .bool (!decide (andI .u8 x1_4 192 = 128)))]
    refine oR 9 (p' := (atN 6 (ctl1 g72p32))) (eE := E10) (H' := (mkH [])) (by kernel_rfl) ?_
    refine oH (fun (x2_6 : Int) => (.int .u8 x2_6, (mkH []))) (atN 7 (ctl1 g72p32)) (fun x2_6 => ((77, .int .u8 x2_6) :: E10)) (idxH (by kernel_rfl)) (fun _ => by kernel_rfl) (fun x2_6 hx2_6 => ?_)
    let E11 : Env := ((6, .int .i64 (fW .i64 (fW .i64 (y9_0 * 64) + fW .i64 (andI .u8 x2_6 63)))) :: (80, .int .i64 (fW .i64 (fW .i64 (y9_0 * 64) + fW .i64 (andI .u8 x2_6 63)))) :: (79, .int .i64 (fW .i64 (andI .u8 x2_6 63))) :: (78, .int .u8 (andI .u8 x2_6 63)) :: (77, .int .u8 x2_6) :: E10)
    refine oR 5 (p' := g72p35) (eE := E11) (H' := (mkH [])) (by kernel_rfl) ?_
    refine oK [0, 1, 6, 7, 8, 9] (eE := [(0, .str a0), (1, .int .i64 a1), (6, .int .i64 (fW .i64 (fW .i64 (y9_0 * 64) + fW .i64 (andI .u8 x2_6 63)))), (7, .int .i64 z6.2.1), (8, .int .i64 z6.2.2), (9, .int .i64 y9_1)]) (by kernel_rfl) ?_
    let E12 : Env := [(9, .int .i64 (fW .i64 (y9_1 + 1))), (63, .int .i64 (fW .i64 (y9_1 + 1))), (62, .int .i64 y9_1), (0, .str a0), (1, .int .i64 a1), (6, .int .i64 (fW .i64 (fW .i64 (y9_0 * 64) + fW .i64 (andI .u8 x2_6 63)))), (7, .int .i64 z6.2.1), (8, .int .i64 z6.2.2), (9, .int .i64 y9_1)]
    refine oR 5 (p' := g72p22) (eE := E12) (H' := (mkH [])) (by kernel_rfl) ?_
    refine oK [0, 1, 6, 7, 8, 9] (eE := [(0, .str a0), (1, .int .i64 a1), (6, .int .i64 (fW .i64 (fW .i64 (y9_0 * 64) + fW .i64 (andI .u8 x2_6 63)))), (7, .int .i64 z6.2.1), (8, .int .i64 z6.2.2), (9, .int .i64 (fW .i64 (y9_1 + 1)))]) (by kernel_rfl) ?_
    exact ih (fW .i64 (fW .i64 (y9_0 * 64) + fW .i64 (andI .u8 x2_6 63))) (fW .i64 (y9_1 + 1))
  ·let E13 : Env := ((84, .bool (decide (y9_0 < z6.2.2))) :: (83, .bool (decide (y9_0 < z6.2.2))) :: (82, .int .i64 z6.2.2) :: (81, .int .i64 y9_0) :: (61, .bool false) :: E7)
   refine oR 9 (p' := (atN 4 (ctl1 g72p28))) (eE := E13) (H' := (mkH [])) (by kernel_rfl) ?_
   refine oJ (f := fun (z10 : Bool × Int) => if z10.1 then (some (((-1) : Int), (1 : Int))) else (some (z10.2, z6.2.1))) g72p30 (fun (z10 : Bool × Int) => [(6, .int .i64 z10.2), (7, .int .i64 z6.2.1), (88, .bool z10.1)]) (fun (z10 : Bool × Int) => (mkH [])) (fun z10 => ?_) (fun j10 hj10 => ?_)
   ·refine oS 88 (b := z10.1) (by kernel_rfl) (fun hb => ?_) (fun hb => ?_)
    ·let E14 : Env := [(5, .int .i64 1), (4, .int .i64 (-1)), (88, .bool true), (6, .int .i64 z10.2), (7, .int .i64 z6.2.1), (88, .bool z10.1)]
     refine oR 7 (p' := .fin) (eE := E14) (H' := (mkH [])) (by kernel_rfl) ?_
     exact oT (r := (((-1) : Int), (1 : Int))) (xs := [.int .i64 (-1), .int .i64 1]) (v := .tuple [.int .i64 (-1), .int .i64 1]) (by kernel_rfl) (by kernel_rfl) (by kernel_rfl) (.pures (by kernel_rfl)) (by kernel_rfl)
    ·let E15 : Env := [(5, .int .i64 z6.2.1), (4, .int .i64 z10.2), (90, .int .i64 z6.2.1), (89, .int .i64 z10.2), (88, .bool false), (6, .int .i64 z10.2), (7, .int .i64 z6.2.1), (88, .bool z10.1)]
     refine oR 10 (p' := .fin) (eE := E15) (H' := (mkH [])) (by kernel_rfl) ?_
     exact oT (r := (z10.2, z6.2.1)) (xs := [.int .i64 z10.2, .int .i64 z6.2.1]) (v := .tuple [.int .i64 z10.2, .int .i64 z6.2.1]) (by kernel_rfl) (by kernel_rfl) (by kernel_rfl) (.pures (by kernel_rfl)) (by kernel_rfl)
   ·refine oS 84 (b := decide (y9_0 < z6.2.2)) (by kernel_rfl) (fun hb => ?_) (fun hb => ?_)
    ·let E16 : Env := ((88, .bool true) :: (87, .tuple []) :: (86, .tuple []) :: (85, .tuple []) :: (84, .bool true) :: E13)
     refine oR 5 (p' := g72p30) (eE := E16) (H' := (mkH [])) (by kernel_rfl) ?_
     refine oK [6, 7, 88] (eE := [(6, .int .i64 y9_0), (7, .int .i64 z6.2.1), (88, .bool true)]) (by kernel_rfl) ?_
     exact hj10 (true, y9_0)
    ·refine oR 1 (p' := (atN 5 (ctl1 g72p28))) (eE := ((85, .int .i64 y9_0) :: (84, .bool false) :: E13)) (H' := (mkH [])) (by kernel_rfl) ?_
     refine oC (fun (x3_5 : Bool) => .bool x3_5) (atN 6 (ctl1 g72p28)) (fun x3_5 => ((86, .bool x3_5) :: (85, .int .i64 y9_0) :: (84, .bool false) :: E13)) (fi := 82) (args := [.int .i64 y9_0]) (by kernel_rfl) (by kernel_rfl) (fun _ => by kernel_rfl) (fun r h => g82_ok k y9_0 r h) (fun _ => by kernel_rfl) (fun x3_5 hx3_5 => ?_)
     let E17 : Env := ((88, .bool (!x3_5)) :: (87, .bool (!x3_5)) :: (86, .bool x3_5) :: (85, .int .i64 y9_0) :: (84, .bool false) :: E13)
     refine oR 3 (p' := g72p30) (eE := E17) (H' := (mkH [])) (by kernel_rfl) ?_
     refine oK [6, 7, 88] (eE := [(6, .int .i64 y9_0), (7, .int .i64 z6.2.1), (88, .bool (!x3_5))]) (by kernel_rfl) ?_
     exact hj10 (!x3_5, y9_0)
def g72 (k : Nat) (a0 : (List Nat)) (a1 : Int) : Option (Int × Int) :=
 jn (fun (z4 : Bool) => if z4 then (some ((0 : Int), (0 : Int))) else ((nthS a0 a1).bind fun x0_2 => if (decide (fW .i64 x0_2 < 128)) then (some (fW .i64 x0_2, (1 : Int))) else (jn (fun (z5 : Bool) => jn (fun (z6 : Int × Int × Int) => if (decide (fW .i64 ((a0.length : Int) - a1) < z6.2.1)) then (some (((-1) : Int), (1 : Int))) else (g72_l9 k a0 a1 z6 k z6.1 1)) (fun j6 => if z5 then (j6 (andI .i64 (fW .i64 x0_2) 31, 2, 128)) else (jn (fun (z7 : Bool) => if z7 then (j6 (andI .i64 (fW .i64 x0_2) 15, 3, 2048)) else (jn (fun (z8 : Bool) => if z8 then (j6 (andI .i64 (fW .i64 x0_2) 7, 4, 65536)) else (some (((-1) : Int), (1 : Int)))) (fun j8 => if (decide (240 ≤ fW .i64 x0_2)) then (j8 (decide (fW .i64 x0_2 < 248))) else (j8 false)))) (fun j7 => if (decide (224 ≤ fW .i64 x0_2)) then (j7 (decide (fW .i64 x0_2 < 240))) else (j7 false))))) (fun j5 => if (decide (192 ≤ fW .i64 x0_2)) then (j5 (decide (fW .i64 x0_2 < 224))) else (j5 false))))) (fun j4 => if (decide (a1 < 0)) then (j4 true) else (j4 (decide ((a0.length : Int) ≤ a1))))
theorem g72_ok (k : Nat) (a0 : (List Nat)) (a1 : Int) (r : (Int × Int)) (h : g72 k a0 a1 = some r) : PureOk Try.prog 72 [.str a0, .int .i64 a1] (.tuple [.int .i64 r.1, .int .i64 r.2]) := by
 refine pure_of X72 (fun _ => rfl) Try.func72 (by decide +kernel) (by kernel_rfl) (t := g72 k a0 a1) ?_ h
 unfold g72
 refine oE (eE := [(0, .str a0), (1, .int .i64 a1)]) (by kernel_rfl) ?_
 let E1 : Env := [(12, .bool (decide (a1 < 0))), (11, .bool (decide (a1 < 0))), (10, .int .i64 a1), (5, .int .i64 0), (4, .int .i64 0), (0, .str a0), (1, .int .i64 a1)]
 refine oR 11 (p' := (atN 3 (ctl1 g72p1))) (eE := E1) (H' := (mkH [])) (by kernel_rfl) ?_
 refine oJ (f := fun (z4 : Bool) => if z4 then (some ((0 : Int), (0 : Int))) else ((nthS a0 a1).bind fun x0_2 => if (decide (fW .i64 x0_2 < 128)) then (some (fW .i64 x0_2, (1 : Int))) else (jn (fun (z5 : Bool) => jn (fun (z6 : Int × Int × Int) => if (decide (fW .i64 ((a0.length : Int) - a1) < z6.2.1)) then (some (((-1) : Int), (1 : Int))) else (g72_l9 k a0 a1 z6 k z6.1 1)) (fun j6 => if z5 then (j6 (andI .i64 (fW .i64 x0_2) 31, 2, 128)) else (jn (fun (z7 : Bool) => if z7 then (j6 (andI .i64 (fW .i64 x0_2) 15, 3, 2048)) else (jn (fun (z8 : Bool) => if z8 then (j6 (andI .i64 (fW .i64 x0_2) 7, 4, 65536)) else (some (((-1) : Int), (1 : Int)))) (fun j8 => if (decide (240 ≤ fW .i64 x0_2)) then (j8 (decide (fW .i64 x0_2 < 248))) else (j8 false)))) (fun j7 => if (decide (224 ≤ fW .i64 x0_2)) then (j7 (decide (fW .i64 x0_2 < 240))) else (j7 false))))) (fun j5 => if (decide (192 ≤ fW .i64 x0_2)) then (j5 (decide (fW .i64 x0_2 < 224))) else (j5 false))))) g72p2 (fun (z4 : Bool) => [(0, .str a0), (1, .int .i64 a1), (17, .bool z4)]) (fun (z4 : Bool) => (mkH [])) (fun z4 => ?_) (fun j4 hj4 => ?_)
 ·refine oS 17 (b := z4) (by kernel_rfl) (fun hb => ?_) (fun hb => ?_)
  ·let E2 : Env := [(5, .int .i64 0), (4, .int .i64 0), (17, .bool true), (0, .str a0), (1, .int .i64 a1), (17, .bool z4)]
   refine oR 7 (p' := .fin) (eE := E2) (H' := (mkH [])) (by kernel_rfl) ?_
   exact oT (r := ((0 : Int), (0 : Int))) (xs := [.int .i64 0, .int .i64 0]) (v := .tuple [.int .i64 0, .int .i64 0]) (by kernel_rfl) (by kernel_rfl) (by kernel_rfl) (.pures (by kernel_rfl)) (by kernel_rfl)
  ·let E3 : Env := [(19, .int .i64 a1), (18, .str a0), (17, .bool false), (0, .str a0), (1, .int .i64 a1), (17, .bool z4)]
   refine oR 6 (p' := (atN 2 (ctl1 g72p4))) (eE := E3) (H' := (mkH [])) (by kernel_rfl) ?_
   refine oH (fun (x0_2 : Int) => (.int .u8 x0_2, (mkH []))) (atN 3 (ctl1 g72p4)) (fun x0_2 => ((20, .int .u8 x0_2) :: E3)) (idxH (by kernel_rfl)) (fun _ => by kernel_rfl) (fun x0_2 hx0_2 => ?_)
   let E4 : Env := ((8, .int .i64 0) :: (7, .int .i64 1) :: (6, .int .i64 (fW .i64 x0_2)) :: (21, .int .i64 (fW .i64 x0_2)) :: (20, .int .u8 x0_2) :: E3)
   refine oR 11 (p' := g72p7) (eE := E4) (H' := (mkH [])) (by kernel_rfl) ?_
   refine oK [0, 1, 6] (eE := [(0, .str a0), (1, .int .i64 a1), (6, .int .i64 (fW .i64 x0_2))]) (by kernel_rfl) ?_
   let E5 : Env := [(22, .bool (decide (fW .i64 x0_2 < 128))), (24, .bool (decide (fW .i64 x0_2 < 128))), (23, .int .i64 (fW .i64 x0_2)), (0, .str a0), (1, .int .i64 a1), (6, .int .i64 (fW .i64 x0_2))]
   refine oR 5 (p' := g72p8) (eE := E5) (H' := (mkH [])) (by kernel_rfl) ?_
   refine oS 22 (b := decide (fW .i64 x0_2 < 128)) (by kernel_rfl) (fun hb => ?_) (fun hb => ?_)
   ·refine oR 8 (p' := .fin) (eE := ((5, .int .i64 1) :: (4, .int .i64 (fW .i64 x0_2)) :: (25, .int .i64 (fW .i64 x0_2)) :: (22, .bool true) :: E5)) (H' := (mkH [])) (by kernel_rfl) ?_
    exact oT (r := (fW .i64 x0_2, (1 : Int))) (xs := [.int .i64 (fW .i64 x0_2), .int .i64 1]) (v := .tuple [.int .i64 (fW .i64 x0_2), .int .i64 1]) (by kernel_rfl) (by kernel_rfl) (by kernel_rfl) (.pures (by kernel_rfl)) (by kernel_rfl)
   ·refine oR 6 (p' := (atN 3 (ctl1 g72p10))) (eE := ((29, .bool (decide (192 ≤ fW .i64 x0_2))) :: (28, .bool (decide (192 ≤ fW .i64 x0_2))) :: (27, .int .i64 (fW .i64 x0_2)) :: (22, .bool false) :: E5)) (H' := (mkH [])) (by kernel_rfl) ?_
    refine oJ (f := fun (z5 : Bool) => jn (fun (z6 : Int × Int × Int) => if (decide (fW .i64 ((a0.length : Int) - a1) < z6.2.1)) then (some (((-1) : Int), (1 : Int))) else (g72_l9 k a0 a1 z6 k z6.1 1)) (fun j6 => if z5 then (j6 (andI .i64 (fW .i64 x0_2) 31, 2, 128)) else (jn (fun (z7 : Bool) => if z7 then (j6 (andI .i64 (fW .i64 x0_2) 15, 3, 2048)) else (jn (fun (z8 : Bool) => if z8 then (j6 (andI .i64 (fW .i64 x0_2) 7, 4, 65536)) else (some (((-1) : Int), (1 : Int)))) (fun j8 => if (decide (240 ≤ fW .i64 x0_2)) then (j8 (decide (fW .i64 x0_2 < 248))) else (j8 false)))) (fun j7 => if (decide (224 ≤ fW .i64 x0_2)) then (j7 (decide (fW .i64 x0_2 < 240))) else (j7 false))))) g72p11 (fun (z5 : Bool) => [(0, .str a0), (1, .int .i64 a1), (6, .int .i64 (fW .i64 x0_2)), (26, .bool z5)]) (fun (z5 : Bool) => (mkH [])) (fun z5 => ?_) (fun j5 hj5 => ?_)
    ·refine oJ (f := fun (z6 : Int × Int × Int) => if (decide (fW .i64 ((a0.length : Int) - a1) < z6.2.1)) then (some (((-1) : Int), (1 : Int))) else (g72_l9 k a0 a1 z6 k z6.1 1)) g72p14 (fun (z6 : Int × Int × Int) => [(0, .str a0), (1, .int .i64 a1), (6, .int .i64 z6.1), (7, .int .i64 z6.2.1), (8, .int .i64 z6.2.2)]) (fun (z6 : Int × Int × Int) => (mkH [])) (fun z6 => ?_) (fun j6 hj6 => ?_)
     ·let E6 : Env := [(58, .bool (decide (fW .i64 ((a0.length : Int) - a1) < z6.2.1))), (57, .int .i64 z6.2.1), (56, .int .i64 (fW .i64 ((a0.length : Int) - a1))), (55, .int .i64 a1), (54, .int .i64 (a0.length : Int)), (53, .str a0), (0, .str a0), (1, .int .i64 a1), (6, .int .i64 z6.1), (7, .int .i64 z6.2.1), (8, .int .i64 z6.2.2)]
      refine oR 8 (p' := g72p16) (eE := E6) (H' := (mkH [])) (by kernel_rfl) ?_
      refine oS 58 (b := decide (fW .i64 ((a0.length : Int) - a1) < z6.2.1)) (by kernel_rfl) (fun hb => ?_) (fun hb => ?_)
      ·refine oR 7 (p' := .fin) (eE := ((5, .int .i64 1) :: (4, .int .i64 (-1)) :: (58, .bool true) :: E6)) (H' := (mkH [])) (by kernel_rfl) ?_
       exact oT (r := (((-1) : Int), (1 : Int))) (xs := [.int .i64 (-1), .int .i64 1]) (v := .tuple [.int .i64 (-1), .int .i64 1]) (by kernel_rfl) (by kernel_rfl) (by kernel_rfl) (.pures (by kernel_rfl)) (by kernel_rfl)
      ·refine oR 9 (p' := g72p22) (eE := ((9, .int .i64 1) :: (58, .bool false) :: E6)) (H' := (mkH [])) (by kernel_rfl) ?_
       refine oK [0, 1, 6, 7, 8, 9] (eE := [(0, .str a0), (1, .int .i64 a1), (6, .int .i64 z6.1), (7, .int .i64 z6.2.1), (8, .int .i64 z6.2.2), (9, .int .i64 1)]) (by kernel_rfl) ?_
       exact (g72_l9_ok k a0 a1 z6 k) z6.1 1
     ·refine oS 26 (b := z5) (by kernel_rfl) (fun hb => ?_) (fun hb => ?_)
      ·let E18 : Env := [(6, .int .i64 (andI .i64 (fW .i64 x0_2) 31)), (8, .int .i64 128), (7, .int .i64 2), (34, .int .i64 (andI .i64 (fW .i64 x0_2) 31)), (33, .int .i64 (fW .i64 x0_2)), (26, .bool true), (0, .str a0), (1, .int .i64 a1), (6, .int .i64 (fW .i64 x0_2)), (26, .bool z5)]
       refine oR 10 (p' := g72p14) (eE := E18) (H' := (mkH [])) (by kernel_rfl) ?_
       refine oK [0, 1, 6, 7, 8] (eE := [(0, .str a0), (1, .int .i64 a1), (6, .int .i64 (andI .i64 (fW .i64 x0_2) 31)), (7, .int .i64 2), (8, .int .i64 128)]) (by kernel_rfl) ?_
       exact hj6 (andI .i64 (fW .i64 x0_2) 31, 2, 128)
      ·let E19 : Env := [(38, .bool (decide (224 ≤ fW .i64 x0_2))), (37, .bool (decide (224 ≤ fW .i64 x0_2))), (36, .int .i64 (fW .i64 x0_2)), (26, .bool false), (0, .str a0), (1, .int .i64 a1), (6, .int .i64 (fW .i64 x0_2)), (26, .bool z5)]
       refine oR 6 (p' := (atN 3 (ctl1 g72p13))) (eE := E19) (H' := (mkH [])) (by kernel_rfl) ?_
       refine oJ (f := fun (z7 : Bool) => if z7 then (j6 (andI .i64 (fW .i64 x0_2) 15, 3, 2048)) else (jn (fun (z8 : Bool) => if z8 then (j6 (andI .i64 (fW .i64 x0_2) 7, 4, 65536)) else (some (((-1) : Int), (1 : Int)))) (fun j8 => if (decide (240 ≤ fW .i64 x0_2)) then (j8 (decide (fW .i64 x0_2 < 248))) else (j8 false)))) g72p15 (fun (z7 : Bool) => [(0, .str a0), (1, .int .i64 a1), (6, .int .i64 (fW .i64 x0_2)), (35, .bool z7)]) (fun (z7 : Bool) => (mkH [])) (fun z7 => ?_) (fun j7 hj7 => ?_)
       ·refine oS 35 (b := z7) (by kernel_rfl) (fun hb => ?_) (fun hb => ?_)
        ·let E20 : Env := [(6, .int .i64 (andI .i64 (fW .i64 x0_2) 15)), (8, .int .i64 2048), (7, .int .i64 3), (43, .int .i64 (andI .i64 (fW .i64 x0_2) 15)), (42, .int .i64 (fW .i64 x0_2)), (35, .bool true), (0, .str a0), (1, .int .i64 a1), (6, .int .i64 (fW .i64 x0_2)), (35, .bool z7)]
         refine oR 10 (p' := g72p14) (eE := E20) (H' := (mkH [])) (by kernel_rfl) ?_
         refine oK [0, 1, 6, 7, 8] (eE := [(0, .str a0), (1, .int .i64 a1), (6, .int .i64 (andI .i64 (fW .i64 x0_2) 15)), (7, .int .i64 3), (8, .int .i64 2048)]) (by kernel_rfl) ?_
         exact hj6 (andI .i64 (fW .i64 x0_2) 15, 3, 2048)
        ·let E21 : Env := [(47, .bool (decide (240 ≤ fW .i64 x0_2))), (46, .bool (decide (240 ≤ fW .i64 x0_2))), (45, .int .i64 (fW .i64 x0_2)), (35, .bool false), (0, .str a0), (1, .int .i64 a1), (6, .int .i64 (fW .i64 x0_2)), (35, .bool z7)]
         refine oR 6 (p' := (atN 3 (ctl1 g72p18))) (eE := E21) (H' := (mkH [])) (by kernel_rfl) ?_
         refine oJ (f := fun (z8 : Bool) => if z8 then (j6 (andI .i64 (fW .i64 x0_2) 7, 4, 65536)) else (some (((-1) : Int), (1 : Int)))) g72p21 (fun (z8 : Bool) => [(0, .str a0), (1, .int .i64 a1), (6, .int .i64 (fW .i64 x0_2)), (44, .bool z8)]) (fun (z8 : Bool) => (mkH [])) (fun z8 => ?_) (fun j8 hj8 => ?_)
         ·refine oS 44 (b := z8) (by kernel_rfl) (fun hb => ?_) (fun hb => ?_)
          ·let E22 : Env := [(6, .int .i64 (andI .i64 (fW .i64 x0_2) 7)), (8, .int .i64 65536), (7, .int .i64 4), (52, .int .i64 (andI .i64 (fW .i64 x0_2) 7)), (51, .int .i64 (fW .i64 x0_2)), (44, .bool true), (0, .str a0), (1, .int .i64 a1), (6, .int .i64 (fW .i64 x0_2)), (44, .bool z8)]
           refine oR 10 (p' := g72p14) (eE := E22) (H' := (mkH [])) (by kernel_rfl) ?_
           refine oK [0, 1, 6, 7, 8] (eE := [(0, .str a0), (1, .int .i64 a1), (6, .int .i64 (andI .i64 (fW .i64 x0_2) 7)), (7, .int .i64 4), (8, .int .i64 65536)]) (by kernel_rfl) ?_
           exact hj6 (andI .i64 (fW .i64 x0_2) 7, 4, 65536)
          ·let E23 : Env := [(5, .int .i64 1), (4, .int .i64 (-1)), (44, .bool false), (0, .str a0), (1, .int .i64 a1), (6, .int .i64 (fW .i64 x0_2)), (44, .bool z8)]
           refine oR 7 (p' := .fin) (eE := E23) (H' := (mkH [])) (by kernel_rfl) ?_
           exact oT (r := (((-1) : Int), (1 : Int))) (xs := [.int .i64 (-1), .int .i64 1]) (v := .tuple [.int .i64 (-1), .int .i64 1]) (by kernel_rfl) (by kernel_rfl) (by kernel_rfl) (.pures (by kernel_rfl)) (by kernel_rfl)
         ·refine oS 47 (b := decide (240 ≤ fW .i64 x0_2)) (by kernel_rfl) (fun hb => ?_) (fun hb => ?_)
          ·let E24 : Env := ((44, .bool (decide (fW .i64 x0_2 < 248))) :: (50, .bool (decide (fW .i64 x0_2 < 248))) :: (49, .bool (decide (fW .i64 x0_2 < 248))) :: (48, .int .i64 (fW .i64 x0_2)) :: (47, .bool true) :: E21)
           refine oR 5 (p' := g72p21) (eE := E24) (H' := (mkH [])) (by kernel_rfl) ?_
           refine oK [0, 1, 6, 44] (eE := [(0, .str a0), (1, .int .i64 a1), (6, .int .i64 (fW .i64 x0_2)), (44, .bool (decide (fW .i64 x0_2 < 248)))]) (by kernel_rfl) ?_
           exact hj8 (decide (fW .i64 x0_2 < 248))
          ·let E25 : Env := ((44, .bool false) :: (50, .bool false) :: (49, .tuple []) :: (48, .tuple []) :: (47, .bool false) :: E21)
           refine oR 5 (p' := g72p21) (eE := E25) (H' := (mkH [])) (by kernel_rfl) ?_
           refine oK [0, 1, 6, 44] (eE := [(0, .str a0), (1, .int .i64 a1), (6, .int .i64 (fW .i64 x0_2)), (44, .bool false)]) (by kernel_rfl) ?_
           exact hj8 false
       ·refine oS 38 (b := decide (224 ≤ fW .i64 x0_2)) (by kernel_rfl) (fun hb => ?_) (fun hb => ?_)
        ·let E26 : Env := ((35, .bool (decide (fW .i64 x0_2 < 240))) :: (41, .bool (decide (fW .i64 x0_2 < 240))) :: (40, .bool (decide (fW .i64 x0_2 < 240))) :: (39, .int .i64 (fW .i64 x0_2)) :: (38, .bool true) :: E19)
         refine oR 5 (p' := g72p15) (eE := E26) (H' := (mkH [])) (by kernel_rfl) ?_
         refine oK [0, 1, 6, 35] (eE := [(0, .str a0), (1, .int .i64 a1), (6, .int .i64 (fW .i64 x0_2)), (35, .bool (decide (fW .i64 x0_2 < 240)))]) (by kernel_rfl) ?_
         exact hj7 (decide (fW .i64 x0_2 < 240))
        ·let E27 : Env := ((35, .bool false) :: (41, .bool false) :: (40, .tuple []) :: (39, .tuple []) :: (38, .bool false) :: E19)
         refine oR 5 (p' := g72p15) (eE := E27) (H' := (mkH [])) (by kernel_rfl) ?_
         refine oK [0, 1, 6, 35] (eE := [(0, .str a0), (1, .int .i64 a1), (6, .int .i64 (fW .i64 x0_2)), (35, .bool false)]) (by kernel_rfl) ?_
         exact hj7 false
    ·refine oS 29 (b := decide (192 ≤ fW .i64 x0_2)) (by kernel_rfl) (fun hb => ?_) (fun hb => ?_)
     ·let E28 : Env := ((26, .bool (decide (fW .i64 x0_2 < 224))) :: (32, .bool (decide (fW .i64 x0_2 < 224))) :: (31, .bool (decide (fW .i64 x0_2 < 224))) :: (30, .int .i64 (fW .i64 x0_2)) :: (29, .bool true) :: (29, .bool (decide (192 ≤ fW .i64 x0_2))) :: (28, .bool (decide (192 ≤ fW .i64 x0_2))) :: (27, .int .i64 (fW .i64 x0_2)) :: (22, .bool false) :: E5)
      refine oR 5 (p' := g72p11) (eE := E28) (H' := (mkH [])) (by kernel_rfl) ?_
      refine oK [0, 1, 6, 26] (eE := [(0, .str a0), (1, .int .i64 a1), (6, .int .i64 (fW .i64 x0_2)), (26, .bool (decide (fW .i64 x0_2 < 224)))]) (by kernel_rfl) ?_
      exact hj5 (decide (fW .i64 x0_2 < 224))
     ·let E29 : Env := ((26, .bool false) :: (32, .bool false) :: (31, .tuple []) :: (30, .tuple []) :: (29, .bool false) :: (29, .bool (decide (192 ≤ fW .i64 x0_2))) :: (28, .bool (decide (192 ≤ fW .i64 x0_2))) :: (27, .int .i64 (fW .i64 x0_2)) :: (22, .bool false) :: E5)
      refine oR 5 (p' := g72p11) (eE := E29) (H' := (mkH [])) (by kernel_rfl) ?_
      refine oK [0, 1, 6, 26] (eE := [(0, .str a0), (1, .int .i64 a1), (6, .int .i64 (fW .i64 x0_2)), (26, .bool false)]) (by kernel_rfl) ?_
      exact hj5 false
 ·refine oS 12 (b := decide (a1 < 0)) (by kernel_rfl) (fun hb => ?_) (fun hb => ?_)
  ·let E30 : Env := ((17, .bool true) :: (16, .tuple []) :: (15, .tuple []) :: (14, .tuple []) :: (13, .tuple []) :: (12, .bool true) :: E1)
   refine oR 6 (p' := g72p2) (eE := E30) (H' := (mkH [])) (by kernel_rfl) ?_
   refine oK [0, 1, 17] (eE := [(0, .str a0), (1, .int .i64 a1), (17, .bool true)]) (by kernel_rfl) ?_
   exact hj4 true
  ·let E31 : Env := ((17, .bool (decide ((a0.length : Int) ≤ a1))) :: (16, .bool (decide ((a0.length : Int) ≤ a1))) :: (15, .int .i64 (a0.length : Int)) :: (14, .str a0) :: (13, .int .i64 a1) :: (12, .bool false) :: E1)
   refine oR 6 (p' := g72p2) (eE := E31) (H' := (mkH [])) (by kernel_rfl) ?_
   refine oK [0, 1, 17] (eE := [(0, .str a0), (1, .int .i64 a1), (17, .bool (decide ((a0.length : Int) ≤ a1)))]) (by kernel_rfl) ?_
   exact hj4 (decide ((a0.length : Int) ≤ a1))
end
end Go.Proofs.Ytabhkocokojddaa.Am
set_option maxRecDepth 100000
set_option linter.unusedVariables false
namespace Go.Proofs.Ytabhkocokojddaa.Am
open Go
theorem nthS_at {s : List Nat} {i b : Nat} {r : List Nat} (h : s.drop i = b :: r) : nthS s (i : Int) = some (b : Int) := by
 have e : s[i]? = some b := by
  have := List.getElem?_drop (xs := s) (i := i) (j := 0)
  rw [h] at this
  simpa using this.symm
 unfold nthS
 rw [if_pos (by omega)]
 simp [e]
theorem drop_cons {s : List Nat} {i : Nat} (h : i < s.length) : ∃ b r, s.drop i = b :: r ∧ s.drop (i + 1) = r ∧ b ∈ s := by
 refine ⟨s[i], s.drop (i + 1), ?_, rfl, List.getElem_mem h⟩
 exact List.drop_eq_getElem_cons h
def byteOk (b : Nat) : Bool := decide (andI .u8 (b : Int) 63 = ((b % 64 : Nat) : Int)) && decide (andI .u8 (b : Int) 31 = ((b % 32 : Nat) : Int)) && decide (andI .u8 (b : Int) 15 = ((b % 16 : Nat) : Int)) && decide (andI .u8 (b : Int) 7 = ((b % 8 : Nat) : Int)) && (decide (andI .u8 (b : Int) 192 = 128) == decide (b / 64 = 2))
theorem byteOk_all : ((List.range 256).all byteOk) = true := by decide +kernel
theorem byte_ok {b : Nat} (h : b < 256) : andI .u8 (b : Int) 63 = ((b % 64 : Nat) : Int) ∧ andI .u8 (b : Int) 31 = ((b % 32 : Nat) : Int) ∧ andI .u8 (b : Int) 15 = ((b % 16 : Nat) : Int) ∧ andI .u8 (b : Int) 7 = ((b % 8 : Nat) : Int) ∧ (andI .u8 (b : Int) 192 = 128 ↔ b / 64 = 2) := by
 have w := List.all_eq_true.1 byteOk_all b (List.mem_range.2 h)
 simp only [byteOk, Bool.and_eq_true, decide_eq_true_eq, beq_iff_eq] at w
 obtain ⟨⟨⟨⟨w1, w2⟩, w3⟩, w4⟩, w5⟩ := w
 refine ⟨w1, w2, w3, w4, ?_⟩
 constructor
 ·intro h
  rw [decide_eq_true h] at w5
  exact of_decide_eq_true w5.symm
 ·intro h
  rw [decide_eq_true h] at w5
  exact of_decide_eq_true w5
theorem shrC_nat (x : Nat) (n : Nat) : shrC (x : Int) n = ((x / 2 ^ n : Nat) : Int) := by
 unfold shrC
 rw [Int.fdiv_eq_ediv_of_nonneg _ (by exact Int.le_of_lt (Int.pow_pos (by decide)))]
 push_cast
 rfl
theorem fwn (x : Nat) (h : x ≤ 9223372036854775807) : fW .i64 (x : Int) = x := fw64 _ (by omega) (by omega)
theorem or_add (y m : Nat) (hy : y < 1125899906842624) (hm : m < 64) : orI .i64 (shlC .i64 (y : Int) 6) (m : Int) = ((y * 64 + m : Nat) : Int) := by
 have e1 : shlC .i64 (y : Int) 6 = ((y * 64 : Nat) : Int) := by
  unfold shlC
  have : (y : Int) * 2 ^ 6 = ((y * 64 : Nat) : Int) := by push_cast; omega
  rw [this, fwn _ (by omega)]
 rw [e1]
 unfold orI
 have e2 : ∀ x : Nat, x < 2 ^ 63 → (BitVec.ofInt IntKind.i64.bits (x : Int)).toNat = x := by
  intro x hx
  show (BitVec.ofInt 64 (x : Int)).toNat = x
  rw [BitVec.toNat_ofInt]
  omega
 rw [BitVec.toNat_or, e2 _ (by omega), e2 _ (by omega)]
 have e3 : y * 64 ||| m = y * 64 + m := by
  have h := Nat.two_pow_add_eq_or_of_lt (i := 6) hm y
  rw [Nat.mul_comm y 64]
  exact h.symm
 rw [e3, fwn _ (by omega)]
def leadN (c : Nat) : Nat × Nat := if c < 128 then (1, c) else if c / 32 = 6 then (2, c % 32) else if c / 16 = 14 then (3, c % 16) else if c / 8 = 30 then (4, c % 8) else (0, 0)
def moreN : Nat → Nat → List Nat → Option Nat
 | 0, c, _ => some c
 | _ + 1, _, [] => none
 | n + 1, c, b :: r => if b / 64 = 2 then moreN n (c * 64 + b % 64) r else none
def leastN (n : Nat) : Nat := if n = 2 then 128 else if n = 3 then 2048 else if n = 4 then 65536 else 0
def cpN (c : Nat) : Bool := decide (c ≤ 1114111) && !(decide (55296 ≤ c) && decide (c ≤ 57343))
def fitN (n : Nat) : Option Nat → Int × Int
 | none => (-1, 1)
 | some y => if leastN n ≤ y ∧ cpN y = true then ((y : Int), (n : Int)) else (-1, 1)
def dec : List Nat → Int × Int
 | [] => (0, 0)
 | c :: r => if (leadN c).1 = 0 then (-1, 1) else fitN (leadN c).1 (moreN ((leadN c).1 - 1) (leadN c).2 r)
theorem moreN_none : ∀ (n c : Nat) (r : List Nat), r.length < n → moreN n c r = none
 | 0, c, r, h => by omega
 | n + 1, c, [], h => rfl
 | n + 1, c, b :: r, h => by
  unfold moreN
  split
  ·exact moreN_none n _ r (by simp at h; omega)
  ·rfl
theorem lead_at {k c : Nat} (h : c < 256) : g91 k (c : Int) = some (((leadN c).1 : Int), ((leadN c).2 : Int)) := by
 obtain ⟨-, b31, b15, b7, -⟩ := byte_ok h
 unfold g91 leadN
 simp only [shrC_nat, b31, b15, b7]
 have p5 : (2 : Nat) ^ 5 = 32 := rfl
 have p4 : (2 : Nat) ^ 4 = 16 := rfl
 have p3 : (2 : Nat) ^ 3 = 8 := rfl
 rw [p5, p4, p3]
 repeat' split
 all_goals first | (simp only [decide_eq_true_eq] at *; omega) | (simp only []; rw [fwn _ (by omega)]; try rfl) | rfl
theorem cp_at {k c : Nat} : g93 k (c : Int) = some (cpN c) := by
 unfold g93 cpN
 simp only [shrC_nat]
 have p : (2 : Nat) ^ 11 = 2048 := rfl
 rw [p]
 by_cases h1 : c ≤ 1114111
 ·have e1 : decide ((0 : Int) ≤ (c : Int)) = true := by simp
  have e2 : decide ((c : Int) ≤ 1114111) = true := by simp; omega
  have e3 : decide (((c / 2048 : Nat) : Int) = 27) = (decide (55296 ≤ c) && decide (c ≤ 57343)) := by
   rw [Bool.eq_iff_iff]; simp; omega
  rw [e1, e2, e3, decide_eq_true h1]
  rfl
 ·have e2 : decide ((c : Int) ≤ 1114111) = false := by simp; omega
  simp [e2, h1]
theorem point_at {k c : Nat} : g82 k (c : Int) = some (cpN c) := by
 unfold g82 cpN
 by_cases h1 : c ≤ 1114111
 ·by_cases h2 : c < 55296
  ·have : ¬ 55296 ≤ c := by omega
   have e2 : decide ((c : Int) ≤ 1114111) = true := by simp; omega
   have e3 : decide ((c : Int) < 55296) = true := by simp; omega
   simp [e2, e3, h1, this]
  ·have : 55296 ≤ c := by omega
   have e2 : decide ((c : Int) ≤ 1114111) = true := by simp; omega
   have e3 : decide ((c : Int) < 55296) = false := by simp; omega
   simp [e2, e3, h1, this]
   rw [Bool.eq_iff_iff]; simp; omega
 ·have e2 : decide ((c : Int) ≤ 1114111) = false := by simp; omega
  simp [e2, h1]
theorem least_at {k n : Nat} (h : n ≤ 4) : g92 k (n : Int) = some ((leastN n : Nat) : Int) := by
 have : n = 0 ∨ n = 1 ∨ n = 2 ∨ n = 3 ∨ n = 4 := by omega
 obtain rfl | rfl | rfl | rfl | rfl := this <;> rfl
end Go.Proofs.Ytabhkocokojddaa.Am
set_option maxRecDepth 100000
set_option linter.unusedVariables false
namespace Go.Proofs.Ytabhkocokojddaa.Am
noncomputable section
open Go
def X37 : Fx (Int × Int) := ⟨Try.prog, cx, Try.f37, fun r => .tuple [.int .u64 r.1, .int .i64 r.2], 0, fun _ => H0, cxTi, cxOrd⟩
def g37p0 : Pt := nav [0] (bodyAt Try.f37)
def g37p1 : Pt := nav [0, 0, 0, 0] g37p0
def g37p2 : Pt := nav [0, 0] g37p1
def g37p4 : Pt := nav [2, 0, 0] g37p2
def g37p6 : Pt := nav [0, 0, 0] g37p4
def g37p7 : Pt := nav [0, 0, 0, 0] g37p6
def g37p8 : Pt := nav [0, 0, 0, 0] g37p7
def g37p9 : Pt := nav [0, 0, 0] g37p8
def g37p10 : Pt := nav [0, 0] g37p9
def g37p11 : Pt := nav [1, 0, 0, 0, 0, 0] g37p10
def g37p12 : Pt := nav [2, 0, 0, 0] g37p10
def g37p13 : Pt := nav [0, 0] g37p11
def g37p14 : Pt := nav [0, 0] g37p12
def g37p15 : Pt := nav [1, 0] g37p13
def g37p16 : Pt := nav [2, 0, 0] g37p13
def g37p19 : Pt := nav [0, 0, 0] g37p16
def g37p20 : Pt := nav [0, 0, 0] g37p19
def g37p21 : Pt := nav [0, 0] g37p20
def g37_l5 (k : Nat)  (a0 : (List Nat)) (x1_1 : (Int × Int)) (n : Nat) : Int → Bool → Int → Option (Int × Int) :=
 Nat.rec (motive := fun _ => Int → Bool → Int → Option (Int × Int)) (fun _ _ _ => none) (fun _ ih => fun (y5_0 : Int) (y5_1 : Bool) (y5_2 : Int) => if (decide (y5_2 < (a0.length : Int))) then ((nthS a0 y5_2).bind fun x2_2 => jn (fun (z6 : Int × Bool × Int) => ih z6.1 z6.2.1 (fW .i64 (z6.2.2 + 1))) (fun j6 => if (decide (x2_2 = 95)) then (j6 (y5_0, y5_1, y5_2)) else ((nthS a0 y5_2).bind fun x3_13 => (g75 k x3_13).bind fun x3_14 => jn (fun (z7 : Bool × Int × Int × Int) => j6 (orI .u64 (shlC .u64 z7.2.2.1 32) (shrC (shlC .u64 z7.2.2.2 32) 32), z7.1, z7.2.1)) (fun j7 => if y5_1 then (j7 (true, y5_2, fW .u64 (fW .u64 (shrC y5_0 32 * fW .u64 x1_1.2) + shrC (fW .u64 (fW .u64 (shrC (shlC .u64 y5_0 32) 32 * fW .u64 x1_1.2) + fW .u64 x3_14)) 32), fW .u64 (fW .u64 (shrC (shlC .u64 y5_0 32) 32 * fW .u64 x1_1.2) + fW .u64 x3_14))) else (j7 (!decide (shrC (fW .u64 (fW .u64 (shrC y5_0 32 * fW .u64 x1_1.2) + shrC (fW .u64 (fW .u64 (shrC (shlC .u64 y5_0 32) 32 * fW .u64 x1_1.2) + fW .u64 x3_14)) 32)) 32 = 0), y5_2, fW .u64 (fW .u64 (shrC y5_0 32 * fW .u64 x1_1.2) + shrC (fW .u64 (fW .u64 (shrC (shlC .u64 y5_0 32) 32 * fW .u64 x1_1.2) + fW .u64 x3_14)) 32), fW .u64 (fW .u64 (shrC (shlC .u64 y5_0 32) 32 * fW .u64 x1_1.2) + fW .u64 x3_14))))))) else (if y5_1 then (some ((0 : Int), (6 : Int))) else (some (y5_0, (0 : Int))))) n
theorem g37_l5_s (k : Nat)  (a0 : (List Nat)) (x1_1 : (Int × Int)) (n : Nat) (y5_0 : Int) (y5_1 : Bool) (y5_2 : Int) : g37_l5 k a0 x1_1 (n + 1) y5_0 y5_1 y5_2 = (if (decide (y5_2 < (a0.length : Int))) then ((nthS a0 y5_2).bind fun x2_2 => jn (fun (z6 : Int × Bool × Int) => (g37_l5 k a0 x1_1 n) z6.1 z6.2.1 (fW .i64 (z6.2.2 + 1))) (fun j6 => if (decide (x2_2 = 95)) then (j6 (y5_0, y5_1, y5_2)) else ((nthS a0 y5_2).bind fun x3_13 => (g75 k x3_13).bind fun x3_14 => jn (fun (z7 : Bool × Int × Int × Int) => j6 (orI .u64 (shlC .u64 z7.2.2.1 32) (shrC (shlC .u64 z7.2.2.2 32) 32), z7.1, z7.2.1)) (fun j7 => if y5_1 then (j7 (true, y5_2, fW .u64 (fW .u64 (shrC y5_0 32 * fW .u64 x1_1.2) + shrC (fW .u64 (fW .u64 (shrC (shlC .u64 y5_0 32) 32 * fW .u64 x1_1.2) + fW .u64 x3_14)) 32), fW .u64 (fW .u64 (shrC (shlC .u64 y5_0 32) 32 * fW .u64 x1_1.2) + fW .u64 x3_14))) else (j7 (!decide (shrC (fW .u64 (fW .u64 (shrC y5_0 32 * fW .u64 x1_1.2) + shrC (fW .u64 (fW .u64 (shrC (shlC .u64 y5_0 32) 32 * fW .u64 x1_1.2) + fW .u64 x3_14)) 32)) 32 = 0), y5_2, fW .u64 (fW .u64 (shrC y5_0 32 * fW .u64 x1_1.2) + shrC (fW .u64 (fW .u64 (shrC (shlC .u64 y5_0 32) 32 * fW .u64 x1_1.2) + fW .u64 x3_14)) 32), fW .u64 (fW .u64 (shrC (shlC .u64 y5_0 32) 32 * fW .u64 x1_1.2) + fW .u64 x3_14))))))) else (if y5_1 then (some ((0 : Int), (6 : Int))) else (some (y5_0, (0 : Int))))) := rfl
theorem g37_l5_ok (k : Nat)  (a0 : (List Nat)) (x1_1 : (Int × Int))  : ∀ (n : Nat) (y5_0 : Int) (y5_1 : Bool) (y5_2 : Int), Ok X37 g37p8 [(0, .str a0), (5, .int .i64 x1_1.2), (6, .int .u64 y5_0), (7, .bool y5_1), (8, .int .i64 y5_2)] (mkH []) (g37_l5 k a0 x1_1 n y5_0 y5_1 y5_2)
 | 0, _, _, _ => ok_none
 | n + 1, y5_0, y5_1, y5_2 => by
  have ih := g37_l5_ok k a0 x1_1 n
  rw [g37_l5_s]
  refine ok_ent (p' := nav [0] g37p8) (by kernel_rfl) ?_
  let E5 : Env := [(29, .bool (decide (y5_2 < (a0.length : Int)))), (28, .int .i64 (a0.length : Int)), (27, .str a0), (26, .int .i64 y5_2), (0, .str a0), (5, .int .i64 x1_1.2), (6, .int .u64 y5_0), (7, .bool y5_1), (8, .int .i64 y5_2)]
  refine oR 8 (p' := g37p10) (eE := E5) (H' := (mkH [])) (by kernel_rfl) ?_
  refine oS 29 (b := decide (y5_2 < (a0.length : Int))) (by kernel_rfl) (fun hb => ?_) (fun hb => ?_)
  ·refine oR 9 (p' := (atN 2 (ctl1 g37p11))) (eE := ((33, .int .i64 y5_2) :: (32, .str a0) :: (29, .bool true) :: E5)) (H' := (mkH [])) (by kernel_rfl) ?_
   refine oH (fun (x2_2 : Int) => (.int .u8 x2_2, (mkH []))) (atN 3 (ctl1 g37p11)) (fun x2_2 => ((34, .int .u8 x2_2) :: (33, .int .i64 y5_2) :: (32, .str a0) :: (29, .bool true) :: E5)) (idxH (by kernel_rfl)) (fun _ => by kernel_rfl) (fun x2_2 hx2_2 => ?_)
   let E6 : Env := ((35, .bool (decide (x2_2 = 95))) :: (34, .int .u8 x2_2) :: (33, .int .i64 y5_2) :: (32, .str a0) :: (29, .bool true) :: E5)
   refine oR 2 (p' := g37p13) (eE := E6) (H' := (mkH [])) (by kernel_rfl) ?_
   refine oK [0, 5, 6, 7, 8, 35] (eE := [(0, .str a0), (5, .int .i64 x1_1.2), (6, .int .u64 y5_0), (7, .bool y5_1), (8, .int .i64 y5_2), (35, .bool (decide (x2_2 = 95)))]) (by kernel_rfl) ?_
   refine oJ (f := fun (z6 : Int × Bool × Int) => (g37_l5 k a0 x1_1 n) z6.1 z6.2.1 (fW .i64 (z6.2.2 + 1))) g37p15 (fun (z6 : Int × Bool × Int) => [(0, .str a0), (5, .int .i64 x1_1.2), (6, .int .u64 z6.1), (7, .bool z6.2.1), (8, .int .i64 z6.2.2)]) (fun (z6 : Int × Bool × Int) => (mkH [])) (fun z6 => ?_) (fun j6 hj6 => ?_)
   ·let E7 : Env := [(8, .int .i64 (fW .i64 (z6.2.2 + 1))), (31, .int .i64 (fW .i64 (z6.2.2 + 1))), (30, .int .i64 z6.2.2), (0, .str a0), (5, .int .i64 x1_1.2), (6, .int .u64 z6.1), (7, .bool z6.2.1), (8, .int .i64 z6.2.2)]
    refine oR 5 (p' := g37p8) (eE := E7) (H' := (mkH [])) (by kernel_rfl) ?_
    refine oK [0, 5, 6, 7, 8] (eE := [(0, .str a0), (5, .int .i64 x1_1.2), (6, .int .u64 z6.1), (7, .bool z6.2.1), (8, .int .i64 (fW .i64 (z6.2.2 + 1)))]) (by kernel_rfl) ?_
    exact ih z6.1 z6.2.1 (fW .i64 (z6.2.2 + 1))
   ·refine oS 35 (b := decide (x2_2 = 95)) (by kernel_rfl) (fun hb => ?_) (fun hb => ?_)
    ·let E8 : Env := [(35, .bool true), (0, .str a0), (5, .int .i64 x1_1.2), (6, .int .u64 y5_0), (7, .bool y5_1), (8, .int .i64 y5_2), (35, .bool (decide (x2_2 = 95)))]
     refine oR 2 (p' := g37p15) (eE := E8) (H' := (mkH [])) (by kernel_rfl) ?_
     refine oK [0, 5, 6, 7, 8] (eE := [(0, .str a0), (5, .int .i64 x1_1.2), (6, .int .u64 y5_0), (7, .bool y5_1), (8, .int .i64 y5_2)]) (by kernel_rfl) ?_
     exact hj6 (y5_0, y5_1, y5_2)
    ·let E9 : Env := [(48, .int .i64 y5_2), (47, .str a0), (46, .int .u64 (fW .u64 (shrC (shlC .u64 y5_0 32) 32 * fW .u64 x1_1.2))), (45, .int .u64 (fW .u64 x1_1.2)), (44, .int .i64 x1_1.2), (43, .int .u64 (shrC (shlC .u64 y5_0 32) 32)), (42, .int .u64 (shlC .u64 y5_0 32)), (41, .int .u64 y5_0), (40, .int .u64 (fW .u64 (shrC y5_0 32 * fW .u64 x1_1.2))), (39, .int .u64 (fW .u64 x1_1.2)), (38, .int .i64 x1_1.2), (37, .int .u64 (shrC y5_0 32)), (36, .int .u64 y5_0), (35, .bool false), (0, .str a0), (5, .int .i64 x1_1.2), (6, .int .u64 y5_0), (7, .bool y5_1), (8, .int .i64 y5_2), (35, .bool (decide (x2_2 = 95)))]
     refine oR 17 (p' := (atN 13 (ctl1 g37p16))) (eE := E9) (H' := (mkH [])) (by kernel_rfl) ?_
     refine oH (fun (x3_13 : Int) => (.int .u8 x3_13, (mkH []))) (atN 14 (ctl1 g37p16)) (fun x3_13 => ((49, .int .u8 x3_13) :: E9)) (idxH (by kernel_rfl)) (fun _ => by kernel_rfl) (fun x3_13 hx3_13 => ?_)
     refine oC (fun (x3_14 : Int) => .int .i64 x3_14) (atN 15 (ctl1 g37p16)) (fun x3_14 => ((50, .int .i64 x3_14) :: (49, .int .u8 x3_13) :: E9)) (fi := 75) (args := [.int .u8 x3_13]) (by kernel_rfl) (by kernel_rfl) (fun _ => by kernel_rfl) (fun r h => g75_ok k x3_13 r h) (fun _ => by kernel_rfl) (fun x3_14 hx3_14 => ?_)
     let E10 : Env := ((10, .int .u64 (fW .u64 (fW .u64 (shrC (shlC .u64 y5_0 32) 32 * fW .u64 x1_1.2) + fW .u64 x3_14))) :: (9, .int .u64 (fW .u64 (shrC y5_0 32 * fW .u64 x1_1.2))) :: (52, .int .u64 (fW .u64 (fW .u64 (shrC (shlC .u64 y5_0 32) 32 * fW .u64 x1_1.2) + fW .u64 x3_14))) :: (51, .int .u64 (fW .u64 x3_14)) :: (50, .int .i64 x3_14) :: (49, .int .u8 x3_13) :: E9)
     refine oR 6 (p' := g37p19) (eE := E10) (H' := (mkH [])) (by kernel_rfl) ?_
     refine oK [0, 5, 7, 8, 9, 10] (eE := [(0, .str a0), (5, .int .i64 x1_1.2), (7, .bool y5_1), (8, .int .i64 y5_2), (9, .int .u64 (fW .u64 (shrC y5_0 32 * fW .u64 x1_1.2))), (10, .int .u64 (fW .u64 (fW .u64 (shrC (shlC .u64 y5_0 32) 32 * fW .u64 x1_1.2) + fW .u64 x3_14)))]) (by kernel_rfl) ?_
     let E11 : Env := [(58, .bool y5_1), (57, .bool y5_1), (9, .int .u64 (fW .u64 (fW .u64 (shrC y5_0 32 * fW .u64 x1_1.2) + shrC (fW .u64 (fW .u64 (shrC (shlC .u64 y5_0 32) 32 * fW .u64 x1_1.2) + fW .u64 x3_14)) 32))), (56, .int .u64 (fW .u64 (fW .u64 (shrC y5_0 32 * fW .u64 x1_1.2) + shrC (fW .u64 (fW .u64 (shrC (shlC .u64 y5_0 32) 32 * fW .u64 x1_1.2) + fW .u64 x3_14)) 32))), (55, .int .u64 (shrC (fW .u64 (fW .u64 (shrC (shlC .u64 y5_0 32) 32 * fW .u64 x1_1.2) + fW .u64 x3_14)) 32)), (54, .int .u64 (fW .u64 (fW .u64 (shrC (shlC .u64 y5_0 32) 32 * fW .u64 x1_1.2) + fW .u64 x3_14))), (53, .int .u64 (fW .u64 (shrC y5_0 32 * fW .u64 x1_1.2))), (0, .str a0), (5, .int .i64 x1_1.2), (7, .bool y5_1), (8, .int .i64 y5_2), (9, .int .u64 (fW .u64 (shrC y5_0 32 * fW .u64 x1_1.2))), (10, .int .u64 (fW .u64 (fW .u64 (shrC (shlC .u64 y5_0 32) 32 * fW .u64 x1_1.2) + fW .u64 x3_14)))]
     refine oR 11 (p' := (atN 2 (ctl1 g37p20))) (eE := E11) (H' := (mkH [])) (by kernel_rfl) ?_
     refine oJ (f := fun (z7 : Bool × Int × Int × Int) => j6 (orI .u64 (shlC .u64 z7.2.2.1 32) (shrC (shlC .u64 z7.2.2.2 32) 32), z7.1, z7.2.1)) g37p21 (fun (z7 : Bool × Int × Int × Int) => [(0, .str a0), (5, .int .i64 x1_1.2), (7, .bool z7.1), (8, .int .i64 z7.2.1), (9, .int .u64 z7.2.2.1), (10, .int .u64 z7.2.2.2)]) (fun (z7 : Bool × Int × Int × Int) => (mkH [])) (fun z7 => ?_) (fun j7 hj7 => ?_)
     ·let E12 : Env := [(6, .int .u64 (orI .u64 (shlC .u64 z7.2.2.1 32) (shrC (shlC .u64 z7.2.2.2 32) 32))), (68, .int .u64 (orI .u64 (shlC .u64 z7.2.2.1 32) (shrC (shlC .u64 z7.2.2.2 32) 32))), (67, .int .u64 (shrC (shlC .u64 z7.2.2.2 32) 32)), (66, .int .u64 (shlC .u64 z7.2.2.2 32)), (65, .int .u64 z7.2.2.2), (64, .int .u64 (shlC .u64 z7.2.2.1 32)), (63, .int .u64 z7.2.2.1), (0, .str a0), (5, .int .i64 x1_1.2), (7, .bool z7.1), (8, .int .i64 z7.2.1), (9, .int .u64 z7.2.2.1), (10, .int .u64 z7.2.2.2)]
      refine oR 9 (p' := g37p15) (eE := E12) (H' := (mkH [])) (by kernel_rfl) ?_
      refine oK [0, 5, 6, 7, 8] (eE := [(0, .str a0), (5, .int .i64 x1_1.2), (6, .int .u64 (orI .u64 (shlC .u64 z7.2.2.1 32) (shrC (shlC .u64 z7.2.2.2 32) 32))), (7, .bool z7.1), (8, .int .i64 z7.2.1)]) (by kernel_rfl) ?_
      exact hj6 (orI .u64 (shlC .u64 z7.2.2.1 32) (shrC (shlC .u64 z7.2.2.2 32) 32), z7.1, z7.2.1)
     ·refine oS 58 (b := y5_1) (by kernel_rfl) (fun hb => ?_) (fun hb => ?_)
      ·let E13 : Env := ((7, .bool true) :: (62, .bool true) :: (61, .tuple []) :: (60, .tuple []) :: (59, .tuple []) :: (58, .bool true) :: E11)
       refine oR 6 (p' := g37p21) (eE := E13) (H' := (mkH [])) (by kernel_rfl) ?_
       refine oK [0, 5, 7, 8, 9, 10] (eE := [(0, .str a0), (5, .int .i64 x1_1.2), (7, .bool true), (8, .int .i64 y5_2), (9, .int .u64 (fW .u64 (fW .u64 (shrC y5_0 32 * fW .u64 x1_1.2) + shrC (fW .u64 (fW .u64 (shrC (shlC .u64 y5_0 32) 32 * fW .u64 x1_1.2) + fW .u64 x3_14)) 32))), (10, .int .u64 (fW .u64 (fW .u64 (shrC (shlC .u64 y5_0 32) 32 * fW .u64 x1_1.2) + fW .u64 x3_14)))]) (by kernel_rfl) ?_
       exact hj7 (true, y5_2, fW .u64 (fW .u64 (shrC y5_0 32 * fW .u64 x1_1.2) + shrC (fW .u64 (fW .u64 (shrC (shlC .u64 y5_0 32) 32 * fW .u64 x1_1.2) + fW .u64 x3_14)) 32), fW .u64 (fW .u64 (shrC (shlC .u64 y5_0 32) 32 * fW .u64 x1_1.2) + fW .u64 x3_14))
      ·let E14 : Env := ((7, .bool (!decide (shrC (fW .u64 (fW .u64 (shrC y5_0 32 * fW .u64 x1_1.2) + shrC (fW .u64 (fW .u64 (shrC (shlC .u64 y5_0 32) 32 * fW .u64 x1_1.2) + fW .u64 x3_14)) 32)) 32 = 0))) :: (62, .bool (!decide (shrC (fW .u64 (fW .u64 (shrC y5_0 32 * fW .u64 x1_1.2) + shrC (fW .u64 (fW .u64 (shrC (shlC .u64 y5_0 32) 32 * fW .u64 x1_1.2) + fW .u64 x3_14)) 32)) 32 = 0))) :: (61, .bool (!decide (shrC (fW .u64 (fW .u64 (shrC y5_0 32 * fW .u64 x1_1.2) + shrC (fW .u64 (fW .u64 (shrC (shlC .u64 y5_0 32) 32 * fW .u64 x1_1.2) + fW .u64 x3_14)) 32)) 32 = 0))) :: (60, .int .u64 (shrC (fW .u64 (fW .u64 (shrC y5_0 32 * fW .u64 x1_1.2) + shrC (fW .u64 (fW .u64 (shrC (shlC .u64 y5_0 32) 32 * fW .u64 x1_1.2) + fW .u64 x3_14)) 32)) 32)) :: (59, .int .u64 (fW .u64 (fW .u64 (shrC y5_0 32 * fW .u64 x1_1.2) + shrC (fW .u64 (fW .u64 (shrC (shlC .u64 y5_0 32) 32 * fW .u64 x1_1.2) + fW .u64 x3_14)) 32))) :: (58, .bool false) :: E11)
       refine oR 6 (p' := g37p21) (eE := E14) (H' := (mkH [])) (by kernel_rfl) ?_
       refine oK [0, 5, 7, 8, 9, 10] (eE := [(0, .str a0), (5, .int .i64 x1_1.2), (7, .bool (!decide (shrC (fW .u64 (fW .u64 (shrC y5_0 32 * fW .u64 x1_1.2) + shrC (fW .u64 (fW .u64 (shrC (shlC .u64 y5_0 32) 32 * fW .u64 x1_1.2) + fW .u64 x3_14)) 32)) 32 = 0))), (8, .int .i64 y5_2), (9, .int .u64 (fW .u64 (fW .u64 (shrC y5_0 32 * fW .u64 x1_1.2) + shrC (fW .u64 (fW .u64 (shrC (shlC .u64 y5_0 32) 32 * fW .u64 x1_1.2) + fW .u64 x3_14)) 32))), (10, .int .u64 (fW .u64 (fW .u64 (shrC (shlC .u64 y5_0 32) 32 * fW .u64 x1_1.2) + fW .u64 x3_14)))]) (by kernel_rfl) ?_
       exact hj7 (!decide (shrC (fW .u64 (fW .u64 (shrC y5_0 32 * fW .u64 x1_1.2) + shrC (fW .u64 (fW .u64 (shrC (shlC .u64 y5_0 32) 32 * fW .u64 x1_1.2) + fW .u64 x3_14)) 32)) 32 = 0), y5_2, fW .u64 (fW .u64 (shrC y5_0 32 * fW .u64 x1_1.2) + shrC (fW .u64 (fW .u64 (shrC (shlC .u64 y5_0 32) 32 * fW .u64 x1_1.2) + fW .u64 x3_14)) 32), fW .u64 (fW .u64 (shrC (shlC .u64 y5_0 32) 32 * fW .u64 x1_1.2) + fW .u64 x3_14))
  ·refine oR 7 (p' := g37p14) (eE := ((69, .bool y5_1) :: (29, .bool false) :: E5)) (H' := (mkH [])) (by kernel_rfl) ?_
   refine oK [6, 69] (eE := [(6, .int .u64 y5_0), (69, .bool y5_1)]) (by kernel_rfl) ?_
   refine oS 69 (b := y5_1) (by kernel_rfl) (fun hb => ?_) (fun hb => ?_)
   ·let E15 : Env := [(3, .int .i64 6), (2, .int .u64 0), (69, .bool true), (6, .int .u64 y5_0), (69, .bool y5_1)]
    refine oR 7 (p' := .fin) (eE := E15) (H' := (mkH [])) (by kernel_rfl) ?_
    exact oT (r := ((0 : Int), (6 : Int))) (xs := [.int .u64 0, .int .i64 6]) (v := .tuple [.int .u64 0, .int .i64 6]) (by kernel_rfl) (by kernel_rfl) (by kernel_rfl) (.pures (by kernel_rfl)) (by kernel_rfl)
   ·let E16 : Env := [(3, .int .i64 0), (2, .int .u64 y5_0), (70, .int .u64 y5_0), (69, .bool false), (6, .int .u64 y5_0), (69, .bool y5_1)]
    refine oR 9 (p' := .fin) (eE := E16) (H' := (mkH [])) (by kernel_rfl) ?_
    exact oT (r := (y5_0, (0 : Int))) (xs := [.int .u64 y5_0, .int .i64 0]) (v := .tuple [.int .u64 y5_0, .int .i64 0]) (by kernel_rfl) (by kernel_rfl) (by kernel_rfl) (.pures (by kernel_rfl)) (by kernel_rfl)
def g37 (k : Nat) (a0 : (List Nat)) : Option (Int × Int) :=
 jn (fun (z4 : Bool) => if z4 then (some ((0 : Int), (8 : Int))) else ((g74 k a0).bind fun x1_1 => g37_l5 k a0 x1_1 k 0 false x1_1.1)) (fun j4 => if (eqL a0 []) then (j4 true) else ((g73 k a0).bind fun x0_4 => j4 (!decide (x0_4 = (a0.length : Int)))))
theorem g37_ok (k : Nat) (a0 : (List Nat)) (r : (Int × Int)) (h : g37 k a0 = some r) : PureOk Try.prog 37 [.str a0] (.tuple [.int .u64 r.1, .int .i64 r.2]) := by
 refine pure_of X37 (fun _ => rfl) Try.func37 (by decide +kernel) (by kernel_rfl) (t := g37 k a0) ?_ h
 unfold g37
 refine oE (eE := [(0, .str a0)]) (by kernel_rfl) ?_
 let E1 : Env := [(13, .bool (eqL a0 [])), (12, .bool (eqL a0 [])), (11, .str a0), (3, .int .i64 0), (2, .int .u64 0), (0, .str a0)]
 refine oR 11 (p' := (atN 3 (ctl1 g37p1))) (eE := E1) (H' := (mkH [])) (by kernel_rfl) ?_
 refine oJ (f := fun (z4 : Bool) => if z4 then (some ((0 : Int), (8 : Int))) else ((g74 k a0).bind fun x1_1 => g37_l5 k a0 x1_1 k 0 false x1_1.1)) g37p2 (fun (z4 : Bool) => [(0, .str a0), (19, .bool z4)]) (fun (z4 : Bool) => (mkH [])) (fun z4 => ?_) (fun j4 hj4 => ?_)
 ·refine oS 19 (b := z4) (by kernel_rfl) (fun hb => ?_) (fun hb => ?_)
  ·let E2 : Env := [(3, .int .i64 8), (2, .int .u64 0), (19, .bool true), (0, .str a0), (19, .bool z4)]
   refine oR 7 (p' := .fin) (eE := E2) (H' := (mkH [])) (by kernel_rfl) ?_
   exact oT (r := ((0 : Int), (8 : Int))) (xs := [.int .u64 0, .int .i64 8]) (v := .tuple [.int .u64 0, .int .i64 8]) (by kernel_rfl) (by kernel_rfl) (by kernel_rfl) (.pures (by kernel_rfl)) (by kernel_rfl)
  ·refine oR 5 (p' := (atN 1 (ctl1 g37p4))) (eE := [(21, .str a0), (19, .bool false), (0, .str a0), (19, .bool z4)]) (H' := (mkH [])) (by kernel_rfl) ?_
   refine oC (fun (x1_1 : (Int × Int)) => .tuple [.int .i64 x1_1.1, .int .i64 x1_1.2]) (atN 2 (ctl1 g37p4)) (fun x1_1 => [(22, .tuple [.int .i64 x1_1.1, .int .i64 x1_1.2]), (21, .str a0), (19, .bool false), (0, .str a0), (19, .bool z4)]) (fi := 74) (args := [.str a0]) (by kernel_rfl) (by kernel_rfl) (fun _ => by kernel_rfl) (fun r h => g74_ok k a0 r h) (fun _ => by kernel_rfl) (fun x1_1 hx1_1 => ?_)
   let E3 : Env := [(5, .int .i64 x1_1.2), (4, .int .i64 x1_1.1), (24, .int .i64 x1_1.2), (23, .int .i64 x1_1.1), (20, .tuple [.int .i64 x1_1.1, .int .i64 x1_1.2]), (22, .tuple [.int .i64 x1_1.1, .int .i64 x1_1.2]), (21, .str a0), (19, .bool false), (0, .str a0), (19, .bool z4)]
   refine oR 7 (p' := g37p6) (eE := E3) (H' := (mkH [])) (by kernel_rfl) ?_
   refine oK [0, 4, 5] (eE := [(0, .str a0), (4, .int .i64 x1_1.1), (5, .int .i64 x1_1.2)]) (by kernel_rfl) ?_
   let E4 : Env := [(8, .int .i64 x1_1.1), (25, .int .i64 x1_1.1), (7, .bool false), (6, .int .u64 0), (0, .str a0), (4, .int .i64 x1_1.1), (5, .int .i64 x1_1.2)]
   refine oR 12 (p' := g37p8) (eE := E4) (H' := (mkH [])) (by kernel_rfl) ?_
   refine oK [0, 5, 6, 7, 8] (eE := [(0, .str a0), (5, .int .i64 x1_1.2), (6, .int .u64 0), (7, .bool false), (8, .int .i64 x1_1.1)]) (by kernel_rfl) ?_
   exact (g37_l5_ok k a0 x1_1 k) 0 false x1_1.1
 ·refine oS 13 (b := eqL a0 []) (by kernel_rfl) (fun hb => ?_) (fun hb => ?_)
  ·let E17 : Env := ((19, .bool true) :: (18, .tuple []) :: (17, .tuple []) :: (16, .tuple []) :: (15, .tuple []) :: (14, .tuple []) :: (13, .bool true) :: E1)
   refine oR 7 (p' := g37p2) (eE := E17) (H' := (mkH [])) (by kernel_rfl) ?_
   refine oK [0, 19] (eE := [(0, .str a0), (19, .bool true)]) (by kernel_rfl) ?_
   exact hj4 true
  ·refine oR 1 (p' := (atN 4 (ctl1 g37p1))) (eE := ((14, .str a0) :: (13, .bool false) :: E1)) (H' := (mkH [])) (by kernel_rfl) ?_
   refine oC (fun (x0_4 : Int) => .int .i64 x0_4) (atN 5 (ctl1 g37p1)) (fun x0_4 => ((15, .int .i64 x0_4) :: (14, .str a0) :: (13, .bool false) :: E1)) (fi := 73) (args := [.str a0]) (by kernel_rfl) (by kernel_rfl) (fun _ => by kernel_rfl) (fun r h => g73_ok k a0 r h) (fun _ => by kernel_rfl) (fun x0_4 hx0_4 => ?_)
   let E18 : Env := ((19, .bool (!decide (x0_4 = (a0.length : Int)))) :: (18, .bool (!decide (x0_4 = (a0.length : Int)))) :: (17, .int .i64 (a0.length : Int)) :: (16, .str a0) :: (15, .int .i64 x0_4) :: (14, .str a0) :: (13, .bool false) :: E1)
   refine oR 5 (p' := g37p2) (eE := E18) (H' := (mkH [])) (by kernel_rfl) ?_
   refine oK [0, 19] (eE := [(0, .str a0), (19, .bool (!decide (x0_4 = (a0.length : Int))))]) (by kernel_rfl) ?_
   exact hj4 (!decide (x0_4 = (a0.length : Int)))
end
end Go.Proofs.Ytabhkocokojddaa.Am
set_option maxRecDepth 100000
set_option linter.unusedVariables false
namespace Go.Proofs.Ytabhkocokojddaa.Am
noncomputable section
open Go
def X38 : Fx (Int × Int) := ⟨Try.prog, cx, Try.f38, fun r => .tuple [.int .u64 r.1, .int .i64 r.2], 0, fun _ => H0, cxTi, cxOrd⟩
def g38p0 : Pt := nav [0] (bodyAt Try.f38)
def g38p1 : Pt := nav [0, 0, 0, 0] g38p0
def g38p2 : Pt := nav [0, 0] g38p1
def g38p4 : Pt := nav [2, 0, 0] g38p2
def g38p6 : Pt := nav [0, 0, 0, 0] g38p4
def g38p7 : Pt := nav [0, 0, 0, 0] g38p6
def g38p8 : Pt := nav [0, 0, 0] g38p7
def g38p9 : Pt := nav [0, 0] g38p8
def g38p10 : Pt := nav [1, 0, 0, 0, 0] g38p9
def g38p11 : Pt := nav [2, 0, 0] g38p9
def g38p12 : Pt := nav [0, 0] g38p10
def g38p13 : Pt := nav [0, 0, 0, 0] g38p11
def g38p14 : Pt := nav [1, 0] g38p12
def g38p15 : Pt := nav [2, 0] g38p12
def g38p16 : Pt := nav [0, 0, 0, 0] g38p13
def g38p17 : Pt := nav [0, 0, 0] g38p14
def g38p18 : Pt := nav [0, 0, 0] g38p16
def g38p19 : Pt := nav [0, 0, 0, 0] g38p17
def g38p20 : Pt := nav [0, 0] g38p18
def g38p21 : Pt := nav [0, 0, 0] g38p19
def g38p22 : Pt := nav [1, 0, 0, 0, 0, 0] g38p20
def g38p24 : Pt := nav [0, 0] g38p21
def g38p25 : Pt := nav [0, 0] g38p22
def g38p26 : Pt := nav [1, 0, 0, 0] g38p24
def g38p27 : Pt := nav [1, 0] g38p25
def g38p28 : Pt := nav [2, 0, 0] g38p25
def g38p29 : Pt := nav [0, 0] g38p26
def g38p30 : Pt := nav [0, 0, 0, 0] g38p28
def g38p31 : Pt := nav [0, 0] g38p30
def g38_l8 (k : Nat) (c9 : Int × Int × Int → Option (Int × Int)) (a0 : (List Nat)) (n : Nat) : Int → Int → Int → Int → Option (Int × Int) :=
 Nat.rec (motive := fun _ => Int → Int → Int → Int → Option (Int × Int)) (fun _ _ _ _ => none) (fun _ ih => fun (y8_0 : Int) (y8_1 : Int) (y8_2 : Int) (y8_3 : Int) => if (decide (y8_3 < y8_1)) then ((nthS a0 y8_3).bind fun x4_4 => ih y8_0 y8_1 (fW .i64 (fW .i64 (y8_2 * 10) + fW .i64 (fW .u8 (x4_4 - 48)))) (fW .i64 (y8_3 + 1))) else (c9 (y8_1, y8_2, y8_0))) n
theorem g38_l8_s (k : Nat) (c9 : Int × Int × Int → Option (Int × Int)) (a0 : (List Nat)) (n : Nat) (y8_0 : Int) (y8_1 : Int) (y8_2 : Int) (y8_3 : Int) : g38_l8 k c9 a0 (n + 1) y8_0 y8_1 y8_2 y8_3 = (if (decide (y8_3 < y8_1)) then ((nthS a0 y8_3).bind fun x4_4 => (g38_l8 k c9 a0 n) y8_0 y8_1 (fW .i64 (fW .i64 (y8_2 * 10) + fW .i64 (fW .u8 (x4_4 - 48)))) (fW .i64 (y8_3 + 1))) else (c9 (y8_1, y8_2, y8_0))) := rfl
theorem g38_l8_ok (k : Nat) (c9 : Int × Int × Int → Option (Int × Int)) (a0 : (List Nat)) (hc9 : ∀ z9 : Int × Int × Int, Ok X38 g38p15 ((fun (z9 : Int × Int × Int) => [(0, .str a0), (4, .int .i64 z9.2.1), (5, .int .i64 z9.2.2), (6, .int .i64 z9.1)]) z9) ((fun (z9 : Int × Int × Int) => (mkH [])) z9) (c9 z9)) : ∀ (n : Nat) (y8_0 : Int) (y8_1 : Int) (y8_2 : Int) (y8_3 : Int), Ok X38 g38p19 [(0, .str a0), (4, .int .i64 y8_2), (5, .int .i64 y8_0), (6, .int .i64 y8_1), (7, .int .i64 y8_3)] (mkH []) (g38_l8 k c9 a0 n y8_0 y8_1 y8_2 y8_3)
 | 0, _, _, _, _ => ok_none
 | n + 1, y8_0, y8_1, y8_2, y8_3 => by
  have ih := g38_l8_ok k c9 a0 hc9 n
  rw [g38_l8_s]
  refine ok_ent (p' := nav [0] g38p19) (by kernel_rfl) ?_
  let E8 : Env := [(34, .bool (decide (y8_3 < y8_1))), (33, .int .i64 y8_1), (32, .int .i64 y8_3), (0, .str a0), (4, .int .i64 y8_2), (5, .int .i64 y8_0), (6, .int .i64 y8_1), (7, .int .i64 y8_3)]
  refine oR 7 (p' := g38p24) (eE := E8) (H' := (mkH [])) (by kernel_rfl) ?_
  refine oS 34 (b := decide (y8_3 < y8_1)) (by kernel_rfl) (fun hb => ?_) (fun hb => ?_)
  ·let E9 : Env := ((40, .int .i64 y8_3) :: (39, .str a0) :: (38, .int .i64 (fW .i64 (y8_2 * 10))) :: (37, .int .i64 y8_2) :: (34, .bool true) :: E8)
   refine oR 9 (p' := (atN 4 (ctl1 g38p26))) (eE := E9) (H' := (mkH [])) (by kernel_rfl) ?_
   refine oH (fun (x4_4 : Int) => (.int .u8 x4_4, (mkH []))) (atN 5 (ctl1 g38p26)) (fun x4_4 => ((41, .int .u8 x4_4) :: E9)) (idxH (by kernel_rfl)) (fun _ => by kernel_rfl) (fun x4_4 hx4_4 => ?_)
   let E10 : Env := ((4, .int .i64 (fW .i64 (fW .i64 (y8_2 * 10) + fW .i64 (fW .u8 (x4_4 - 48))))) :: (44, .int .i64 (fW .i64 (fW .i64 (y8_2 * 10) + fW .i64 (fW .u8 (x4_4 - 48))))) :: (43, .int .i64 (fW .i64 (fW .u8 (x4_4 - 48)))) :: (42, .int .u8 (fW .u8 (x4_4 - 48))) :: (41, .int .u8 x4_4) :: E9)
   refine oR 5 (p' := g38p29) (eE := E10) (H' := (mkH [])) (by kernel_rfl) ?_
   refine oK [0, 4, 5, 6, 7] (eE := [(0, .str a0), (4, .int .i64 (fW .i64 (fW .i64 (y8_2 * 10) + fW .i64 (fW .u8 (x4_4 - 48))))), (5, .int .i64 y8_0), (6, .int .i64 y8_1), (7, .int .i64 y8_3)]) (by kernel_rfl) ?_
   let E11 : Env := [(7, .int .i64 (fW .i64 (y8_3 + 1))), (36, .int .i64 (fW .i64 (y8_3 + 1))), (35, .int .i64 y8_3), (0, .str a0), (4, .int .i64 (fW .i64 (fW .i64 (y8_2 * 10) + fW .i64 (fW .u8 (x4_4 - 48))))), (5, .int .i64 y8_0), (6, .int .i64 y8_1), (7, .int .i64 y8_3)]
   refine oR 5 (p' := g38p19) (eE := E11) (H' := (mkH [])) (by kernel_rfl) ?_
   refine oK [0, 4, 5, 6, 7] (eE := [(0, .str a0), (4, .int .i64 (fW .i64 (fW .i64 (y8_2 * 10) + fW .i64 (fW .u8 (x4_4 - 48))))), (5, .int .i64 y8_0), (6, .int .i64 y8_1), (7, .int .i64 (fW .i64 (y8_3 + 1)))]) (by kernel_rfl) ?_
   exact ih y8_0 y8_1 (fW .i64 (fW .i64 (y8_2 * 10) + fW .i64 (fW .u8 (x4_4 - 48)))) (fW .i64 (y8_3 + 1))
  ·refine oR 2 (p' := g38p15) (eE := ((34, .bool false) :: E8)) (H' := (mkH [])) (by kernel_rfl) ?_
   refine oK [0, 4, 5, 6] (eE := [(0, .str a0), (4, .int .i64 y8_2), (5, .int .i64 y8_0), (6, .int .i64 y8_1)]) (by kernel_rfl) ?_
   exact hc9 (y8_1, y8_2, y8_0)
def g38_l10 (k : Nat)  (a0 : (List Nat)) (n : Nat) : Int → Int → Int → Option (Int × Int) :=
 Nat.rec (motive := fun _ => Int → Int → Int → Option (Int × Int)) (fun _ _ _ => none) (fun _ ih => fun (y10_0 : Int) (y10_1 : Int) (y10_2 : Int) => if (decide (y10_1 < (a0.length : Int))) then ((nthS a0 y10_1).bind fun x2_2 => jn (fun (z11 : Int × Int × Int) => ih z11.1 (fW .i64 (z11.2.1 + 1)) z11.2.2) (fun j11 => if (decide (x2_2 = 95)) then (j11 (y10_0, y10_1, y10_2)) else ((nthS a0 y10_1).bind fun x3_2 => (g77 k x3_2 y10_2).bind fun x3_4 => (quoS .u64 (fW .u64 (18446744073709551615 - fW .u64 x3_4)) (fW .u64 y10_2)).bind fun x5_5 => if (decide (x5_5 < y10_0)) then (some ((0 : Int), (6 : Int))) else (j11 (fW .u64 (fW .u64 (y10_0 * fW .u64 y10_2) + fW .u64 x3_4), y10_1, y10_2))))) else (some (y10_0, (0 : Int)))) n
theorem g38_l10_s (k : Nat)  (a0 : (List Nat)) (n : Nat) (y10_0 : Int) (y10_1 : Int) (y10_2 : Int) : g38_l10 k a0 (n + 1) y10_0 y10_1 y10_2 = (if (decide (y10_1 < (a0.length : Int))) then ((nthS a0 y10_1).bind fun x2_2 => jn (fun (z11 : Int × Int × Int) => (g38_l10 k a0 n) z11.1 (fW .i64 (z11.2.1 + 1)) z11.2.2) (fun j11 => if (decide (x2_2 = 95)) then (j11 (y10_0, y10_1, y10_2)) else ((nthS a0 y10_1).bind fun x3_2 => (g77 k x3_2 y10_2).bind fun x3_4 => (quoS .u64 (fW .u64 (18446744073709551615 - fW .u64 x3_4)) (fW .u64 y10_2)).bind fun x5_5 => if (decide (x5_5 < y10_0)) then (some ((0 : Int), (6 : Int))) else (j11 (fW .u64 (fW .u64 (y10_0 * fW .u64 y10_2) + fW .u64 x3_4), y10_1, y10_2))))) else (some (y10_0, (0 : Int)))) := rfl
theorem g38_l10_ok (k : Nat)  (a0 : (List Nat))  : ∀ (n : Nat) (y10_0 : Int) (y10_1 : Int) (y10_2 : Int), Ok X38 g38p16 [(0, .str a0), (4, .int .i64 y10_2), (8, .int .u64 y10_0), (9, .int .i64 y10_1)] (mkH []) (g38_l10 k a0 n y10_0 y10_1 y10_2)
 | 0, _, _, _ => ok_none
 | n + 1, y10_0, y10_1, y10_2 => by
  have ih := g38_l10_ok k a0 n
  rw [g38_l10_s]
  refine ok_ent (p' := nav [0] g38p16) (by kernel_rfl) ?_
  let E13 : Env := [(49, .bool (decide (y10_1 < (a0.length : Int)))), (48, .int .i64 (a0.length : Int)), (47, .str a0), (46, .int .i64 y10_1), (0, .str a0), (4, .int .i64 y10_2), (8, .int .u64 y10_0), (9, .int .i64 y10_1)]
  refine oR 8 (p' := g38p20) (eE := E13) (H' := (mkH [])) (by kernel_rfl) ?_
  refine oS 49 (b := decide (y10_1 < (a0.length : Int))) (by kernel_rfl) (fun hb => ?_) (fun hb => ?_)
  ·refine oR 9 (p' := (atN 2 (ctl1 g38p22))) (eE := ((53, .int .i64 y10_1) :: (52, .str a0) :: (49, .bool true) :: E13)) (H' := (mkH [])) (by kernel_rfl) ?_
   refine oH (fun (x2_2 : Int) => (.int .u8 x2_2, (mkH []))) (atN 3 (ctl1 g38p22)) (fun x2_2 => ((54, .int .u8 x2_2) :: (53, .int .i64 y10_1) :: (52, .str a0) :: (49, .bool true) :: E13)) (idxH (by kernel_rfl)) (fun _ => by kernel_rfl) (fun x2_2 hx2_2 => ?_)
   let E14 : Env := ((55, .bool (decide (x2_2 = 95))) :: (54, .int .u8 x2_2) :: (53, .int .i64 y10_1) :: (52, .str a0) :: (49, .bool true) :: E13)
   refine oR 2 (p' := g38p25) (eE := E14) (H' := (mkH [])) (by kernel_rfl) ?_
   refine oK [0, 4, 8, 9, 55] (eE := [(0, .str a0), (4, .int .i64 y10_2), (8, .int .u64 y10_0), (9, .int .i64 y10_1), (55, .bool (decide (x2_2 = 95)))]) (by kernel_rfl) ?_
   refine oJ (f := fun (z11 : Int × Int × Int) => (g38_l10 k a0 n) z11.1 (fW .i64 (z11.2.1 + 1)) z11.2.2) g38p27 (fun (z11 : Int × Int × Int) => [(0, .str a0), (4, .int .i64 z11.2.2), (8, .int .u64 z11.1), (9, .int .i64 z11.2.1)]) (fun (z11 : Int × Int × Int) => (mkH [])) (fun z11 => ?_) (fun j11 hj11 => ?_)
   ·let E15 : Env := [(9, .int .i64 (fW .i64 (z11.2.1 + 1))), (51, .int .i64 (fW .i64 (z11.2.1 + 1))), (50, .int .i64 z11.2.1), (0, .str a0), (4, .int .i64 z11.2.2), (8, .int .u64 z11.1), (9, .int .i64 z11.2.1)]
    refine oR 5 (p' := g38p16) (eE := E15) (H' := (mkH [])) (by kernel_rfl) ?_
    refine oK [0, 4, 8, 9] (eE := [(0, .str a0), (4, .int .i64 z11.2.2), (8, .int .u64 z11.1), (9, .int .i64 (fW .i64 (z11.2.1 + 1)))]) (by kernel_rfl) ?_
    exact ih z11.1 (fW .i64 (z11.2.1 + 1)) z11.2.2
   ·refine oS 55 (b := decide (x2_2 = 95)) (by kernel_rfl) (fun hb => ?_) (fun hb => ?_)
    ·let E16 : Env := [(55, .bool true), (0, .str a0), (4, .int .i64 y10_2), (8, .int .u64 y10_0), (9, .int .i64 y10_1), (55, .bool (decide (x2_2 = 95)))]
     refine oR 2 (p' := g38p27) (eE := E16) (H' := (mkH [])) (by kernel_rfl) ?_
     refine oK [0, 4, 8, 9] (eE := [(0, .str a0), (4, .int .i64 y10_2), (8, .int .u64 y10_0), (9, .int .i64 y10_1)]) (by kernel_rfl) ?_
     exact hj11 (y10_0, y10_1, y10_2)
    ·let E17 : Env := [(57, .int .i64 y10_1), (56, .str a0), (55, .bool false), (0, .str a0), (4, .int .i64 y10_2), (8, .int .u64 y10_0), (9, .int .i64 y10_1), (55, .bool (decide (x2_2 = 95)))]
     refine oR 6 (p' := (atN 2 (ctl1 g38p28))) (eE := E17) (H' := (mkH [])) (by kernel_rfl) ?_
     refine oH (fun (x3_2 : Int) => (.int .u8 x3_2, (mkH []))) (atN 3 (ctl1 g38p28)) (fun x3_2 => ((58, .int .u8 x3_2) :: E17)) (idxH (by kernel_rfl)) (fun _ => by kernel_rfl) (fun x3_2 hx3_2 => ?_)
     refine oR 1 (p' := (atN 4 (ctl1 g38p28))) (eE := ((59, .int .i64 y10_2) :: (58, .int .u8 x3_2) :: E17)) (H' := (mkH [])) (by kernel_rfl) ?_
     refine oC (fun (x3_4 : Int) => .int .i64 x3_4) (atN 5 (ctl1 g38p28)) (fun x3_4 => ((60, .int .i64 x3_4) :: (59, .int .i64 y10_2) :: (58, .int .u8 x3_2) :: E17)) (fi := 77) (args := [.int .u8 x3_2, .int .i64 y10_2]) (by kernel_rfl) (by kernel_rfl) (fun _ => by kernel_rfl) (fun r h => g77_ok k x3_2 y10_2 r h) (fun _ => by kernel_rfl) (fun x3_4 hx3_4 => ?_)
     let E18 : Env := ((10, .int .u64 (fW .u64 x3_4)) :: (61, .int .u64 (fW .u64 x3_4)) :: (60, .int .i64 x3_4) :: (59, .int .i64 y10_2) :: (58, .int .u8 x3_2) :: E17)
     refine oR 5 (p' := g38p30) (eE := E18) (H' := (mkH [])) (by kernel_rfl) ?_
     refine oK [0, 4, 8, 9, 10] (eE := [(0, .str a0), (4, .int .i64 y10_2), (8, .int .u64 y10_0), (9, .int .i64 y10_1), (10, .int .u64 (fW .u64 x3_4))]) (by kernel_rfl) ?_
     let E19 : Env := [(66, .int .u64 (fW .u64 y10_2)), (65, .int .i64 y10_2), (64, .int .u64 (fW .u64 (18446744073709551615 - fW .u64 x3_4))), (63, .int .u64 (fW .u64 x3_4)), (62, .int .u64 y10_0), (0, .str a0), (4, .int .i64 y10_2), (8, .int .u64 y10_0), (9, .int .i64 y10_1), (10, .int .u64 (fW .u64 x3_4))]
     refine oR 6 (p' := (atN 5 (ctl1 g38p30))) (eE := E19) (H' := (mkH [])) (by kernel_rfl) ?_
     refine oH (fun (x5_5 : Int) => (.int .u64 x5_5, (mkH []))) (atN 6 (ctl1 g38p30)) (fun x5_5 => ((67, .int .u64 x5_5) :: E19)) (quoH (by kernel_rfl)) (fun _ => by kernel_rfl) (fun x5_5 hx5_5 => ?_)
     refine oR 2 (p' := g38p31) (eE := ((68, .bool (decide (x5_5 < y10_0))) :: (67, .int .u64 x5_5) :: E19)) (H' := (mkH [])) (by kernel_rfl) ?_
     refine oS 68 (b := decide (x5_5 < y10_0)) (by kernel_rfl) (fun hb => ?_) (fun hb => ?_)
     ·let E20 : Env := ((3, .int .i64 6) :: (2, .int .u64 0) :: (68, .bool true) :: (68, .bool (decide (x5_5 < y10_0))) :: (67, .int .u64 x5_5) :: E19)
      refine oR 7 (p' := .fin) (eE := E20) (H' := (mkH [])) (by kernel_rfl) ?_
      exact oT (r := ((0 : Int), (6 : Int))) (xs := [.int .u64 0, .int .i64 6]) (v := .tuple [.int .u64 0, .int .i64 6]) (by kernel_rfl) (by kernel_rfl) (by kernel_rfl) (.pures (by kernel_rfl)) (by kernel_rfl)
     ·let E21 : Env := ((8, .int .u64 (fW .u64 (fW .u64 (y10_0 * fW .u64 y10_2) + fW .u64 x3_4))) :: (74, .int .u64 (fW .u64 (fW .u64 (y10_0 * fW .u64 y10_2) + fW .u64 x3_4))) :: (73, .int .u64 (fW .u64 x3_4)) :: (72, .int .u64 (fW .u64 (y10_0 * fW .u64 y10_2))) :: (71, .int .u64 (fW .u64 y10_2)) :: (70, .int .i64 y10_2) :: (69, .int .u64 y10_0) :: (68, .bool false) :: (68, .bool (decide (x5_5 < y10_0))) :: (67, .int .u64 x5_5) :: E19)
      refine oR 11 (p' := g38p27) (eE := E21) (H' := (mkH [])) (by kernel_rfl) ?_
      refine oK [0, 4, 8, 9] (eE := [(0, .str a0), (4, .int .i64 y10_2), (8, .int .u64 (fW .u64 (fW .u64 (y10_0 * fW .u64 y10_2) + fW .u64 x3_4))), (9, .int .i64 y10_1)]) (by kernel_rfl) ?_
      exact hj11 (fW .u64 (fW .u64 (y10_0 * fW .u64 y10_2) + fW .u64 x3_4), y10_1, y10_2)
  ·refine oR 9 (p' := .fin) (eE := ((3, .int .i64 0) :: (2, .int .u64 y10_0) :: (75, .int .u64 y10_0) :: (49, .bool false) :: E13)) (H' := (mkH [])) (by kernel_rfl) ?_
   exact oT (r := (y10_0, (0 : Int))) (xs := [.int .u64 y10_0, .int .i64 0]) (v := .tuple [.int .u64 y10_0, .int .i64 0]) (by kernel_rfl) (by kernel_rfl) (by kernel_rfl) (.pures (by kernel_rfl)) (by kernel_rfl)
def g38_l7 (k : Nat)  (a0 : (List Nat)) (n : Nat) : Int → Int → Int → Option (Int × Int) :=
 Nat.rec (motive := fun _ => Int → Int → Int → Option (Int × Int)) (fun _ _ _ => none) (fun _ ih => fun (y7_0 : Int) (y7_1 : Int) (y7_2 : Int) => if (decide (y7_0 < (a0.length : Int))) then ((nthS a0 y7_0).bind fun x1_2 => jn (fun (z9 : Int × Int × Int) => ih (fW .i64 (z9.1 + 1)) z9.2.1 z9.2.2) (fun j9 => if (decide (x1_2 = 35)) then (g38_l8 k j9 a0 k (fW .i64 (y7_0 + 1)) y7_0 0 0) else (j9 (y7_0, y7_1, y7_2)))) else (g38_l10 k a0 k 0 y7_2 y7_1)) n
theorem g38_l7_s (k : Nat)  (a0 : (List Nat)) (n : Nat) (y7_0 : Int) (y7_1 : Int) (y7_2 : Int) : g38_l7 k a0 (n + 1) y7_0 y7_1 y7_2 = (if (decide (y7_0 < (a0.length : Int))) then ((nthS a0 y7_0).bind fun x1_2 => jn (fun (z9 : Int × Int × Int) => (g38_l7 k a0 n) (fW .i64 (z9.1 + 1)) z9.2.1 z9.2.2) (fun j9 => if (decide (x1_2 = 35)) then (g38_l8 k j9 a0 k (fW .i64 (y7_0 + 1)) y7_0 0 0) else (j9 (y7_0, y7_1, y7_2)))) else (g38_l10 k a0 k 0 y7_2 y7_1)) := rfl
theorem g38_l7_ok (k : Nat)  (a0 : (List Nat))  : ∀ (n : Nat) (y7_0 : Int) (y7_1 : Int) (y7_2 : Int), Ok X38 g38p7 [(0, .str a0), (4, .int .i64 y7_1), (5, .int .i64 y7_2), (6, .int .i64 y7_0)] (mkH []) (g38_l7 k a0 n y7_0 y7_1 y7_2)
 | 0, _, _, _ => ok_none
 | n + 1, y7_0, y7_1, y7_2 => by
  have ih := g38_l7_ok k a0 n
  rw [g38_l7_s]
  refine ok_ent (p' := nav [0] g38p7) (by kernel_rfl) ?_
  let E4 : Env := [(23, .bool (decide (y7_0 < (a0.length : Int)))), (22, .int .i64 (a0.length : Int)), (21, .str a0), (20, .int .i64 y7_0), (0, .str a0), (4, .int .i64 y7_1), (5, .int .i64 y7_2), (6, .int .i64 y7_0)]
  refine oR 8 (p' := g38p9) (eE := E4) (H' := (mkH [])) (by kernel_rfl) ?_
  refine oS 23 (b := decide (y7_0 < (a0.length : Int))) (by kernel_rfl) (fun hb => ?_) (fun hb => ?_)
  ·refine oR 8 (p' := (atN 2 (ctl1 g38p10))) (eE := ((27, .int .i64 y7_0) :: (26, .str a0) :: (23, .bool true) :: E4)) (H' := (mkH [])) (by kernel_rfl) ?_
   refine oH (fun (x1_2 : Int) => (.int .u8 x1_2, (mkH []))) (atN 3 (ctl1 g38p10)) (fun x1_2 => ((28, .int .u8 x1_2) :: (27, .int .i64 y7_0) :: (26, .str a0) :: (23, .bool true) :: E4)) (idxH (by kernel_rfl)) (fun _ => by kernel_rfl) (fun x1_2 hx1_2 => ?_)
   let E5 : Env := ((29, .bool (decide (x1_2 = 35))) :: (28, .int .u8 x1_2) :: (27, .int .i64 y7_0) :: (26, .str a0) :: (23, .bool true) :: E4)
   refine oR 2 (p' := g38p12) (eE := E5) (H' := (mkH [])) (by kernel_rfl) ?_
   refine oK [0, 4, 5, 6, 29] (eE := [(0, .str a0), (4, .int .i64 y7_1), (5, .int .i64 y7_2), (6, .int .i64 y7_0), (29, .bool (decide (x1_2 = 35)))]) (by kernel_rfl) ?_
   refine oJ (f := fun (z9 : Int × Int × Int) => (g38_l7 k a0 n) (fW .i64 (z9.1 + 1)) z9.2.1 z9.2.2) g38p15 (fun (z9 : Int × Int × Int) => [(0, .str a0), (4, .int .i64 z9.2.1), (5, .int .i64 z9.2.2), (6, .int .i64 z9.1)]) (fun (z9 : Int × Int × Int) => (mkH [])) (fun z9 => ?_) (fun j9 hj9 => ?_)
   ·let E6 : Env := [(6, .int .i64 (fW .i64 (z9.1 + 1))), (25, .int .i64 (fW .i64 (z9.1 + 1))), (24, .int .i64 z9.1), (0, .str a0), (4, .int .i64 z9.2.1), (5, .int .i64 z9.2.2), (6, .int .i64 z9.1)]
    refine oR 5 (p' := g38p7) (eE := E6) (H' := (mkH [])) (by kernel_rfl) ?_
    refine oK [0, 4, 5, 6] (eE := [(0, .str a0), (4, .int .i64 z9.2.1), (5, .int .i64 z9.2.2), (6, .int .i64 (fW .i64 (z9.1 + 1)))]) (by kernel_rfl) ?_
    exact ih (fW .i64 (z9.1 + 1)) z9.2.1 z9.2.2
   ·refine oS 29 (b := decide (x1_2 = 35)) (by kernel_rfl) (fun hb => ?_) (fun hb => ?_)
    ·let E7 : Env := [(7, .int .i64 0), (5, .int .i64 (fW .i64 (y7_0 + 1))), (4, .int .i64 0), (31, .int .i64 (fW .i64 (y7_0 + 1))), (30, .int .i64 y7_0), (29, .bool true), (0, .str a0), (4, .int .i64 y7_1), (5, .int .i64 y7_2), (6, .int .i64 y7_0), (29, .bool (decide (x1_2 = 35)))]
     refine oR 14 (p' := g38p19) (eE := E7) (H' := (mkH [])) (by kernel_rfl) ?_
     refine oK [0, 4, 5, 6, 7] (eE := [(0, .str a0), (4, .int .i64 0), (5, .int .i64 (fW .i64 (y7_0 + 1))), (6, .int .i64 y7_0), (7, .int .i64 0)]) (by kernel_rfl) ?_
     exact (g38_l8_ok k j9 a0 hj9 k) (fW .i64 (y7_0 + 1)) y7_0 0 0
    ·let E12 : Env := [(29, .bool false), (0, .str a0), (4, .int .i64 y7_1), (5, .int .i64 y7_2), (6, .int .i64 y7_0), (29, .bool (decide (x1_2 = 35)))]
     refine oR 2 (p' := g38p15) (eE := E12) (H' := (mkH [])) (by kernel_rfl) ?_
     refine oK [0, 4, 5, 6] (eE := [(0, .str a0), (4, .int .i64 y7_1), (5, .int .i64 y7_2), (6, .int .i64 y7_0)]) (by kernel_rfl) ?_
     exact hj9 (y7_0, y7_1, y7_2)
  ·refine oR 14 (p' := g38p16) (eE := ((9, .int .i64 y7_2) :: (45, .int .i64 y7_2) :: (8, .int .u64 0) :: (23, .bool false) :: E4)) (H' := (mkH [])) (by kernel_rfl) ?_
   refine oK [0, 4, 8, 9] (eE := [(0, .str a0), (4, .int .i64 y7_1), (8, .int .u64 0), (9, .int .i64 y7_2)]) (by kernel_rfl) ?_
   exact (g38_l10_ok k a0 k) 0 y7_2 y7_1
def g38 (k : Nat) (a0 : (List Nat)) : Option (Int × Int) :=
 jn (fun (z6 : Bool) => if z6 then (some ((0 : Int), (8 : Int))) else (g38_l7 k a0 k 0 10 0)) (fun j6 => if (eqL a0 []) then (j6 true) else ((g76 k a0 (0 : Int)).bind fun x0_4 => j6 (!decide (x0_4 = (a0.length : Int)))))
theorem g38_ok (k : Nat) (a0 : (List Nat)) (r : (Int × Int)) (h : g38 k a0 = some r) : PureOk Try.prog 38 [.str a0] (.tuple [.int .u64 r.1, .int .i64 r.2]) := by
 refine pure_of X38 (fun _ => rfl) Try.func38 (by decide +kernel) (by kernel_rfl) (t := g38 k a0) ?_ h
 unfold g38
 refine oE (eE := [(0, .str a0)]) (by kernel_rfl) ?_
 let E1 : Env := [(13, .bool (eqL a0 [])), (12, .bool (eqL a0 [])), (11, .str a0), (3, .int .i64 0), (2, .int .u64 0), (0, .str a0)]
 refine oR 11 (p' := (atN 3 (ctl1 g38p1))) (eE := E1) (H' := (mkH [])) (by kernel_rfl) ?_
 refine oJ (f := fun (z6 : Bool) => if z6 then (some ((0 : Int), (8 : Int))) else (g38_l7 k a0 k 0 10 0)) g38p2 (fun (z6 : Bool) => [(0, .str a0), (19, .bool z6)]) (fun (z6 : Bool) => (mkH [])) (fun z6 => ?_) (fun j6 hj6 => ?_)
 ·refine oS 19 (b := z6) (by kernel_rfl) (fun hb => ?_) (fun hb => ?_)
  ·let E2 : Env := [(3, .int .i64 8), (2, .int .u64 0), (19, .bool true), (0, .str a0), (19, .bool z6)]
   refine oR 7 (p' := .fin) (eE := E2) (H' := (mkH [])) (by kernel_rfl) ?_
   exact oT (r := ((0 : Int), (8 : Int))) (xs := [.int .u64 0, .int .i64 8]) (v := .tuple [.int .u64 0, .int .i64 8]) (by kernel_rfl) (by kernel_rfl) (by kernel_rfl) (.pures (by kernel_rfl)) (by kernel_rfl)
  ·let E3 : Env := [(6, .int .i64 0), (5, .int .i64 0), (4, .int .i64 10), (19, .bool false), (0, .str a0), (19, .bool z6)]
   refine oR 14 (p' := g38p7) (eE := E3) (H' := (mkH [])) (by kernel_rfl) ?_
   refine oK [0, 4, 5, 6] (eE := [(0, .str a0), (4, .int .i64 10), (5, .int .i64 0), (6, .int .i64 0)]) (by kernel_rfl) ?_
   exact (g38_l7_ok k a0 k) 0 10 0
 ·refine oS 13 (b := eqL a0 []) (by kernel_rfl) (fun hb => ?_) (fun hb => ?_)
  ·let E22 : Env := ((19, .bool true) :: (18, .tuple []) :: (17, .tuple []) :: (16, .tuple []) :: (15, .tuple []) :: (14, .tuple []) :: (13, .bool true) :: E1)
   refine oR 7 (p' := g38p2) (eE := E22) (H' := (mkH [])) (by kernel_rfl) ?_
   refine oK [0, 19] (eE := [(0, .str a0), (19, .bool true)]) (by kernel_rfl) ?_
   exact hj6 true
  ·refine oR 1 (p' := (atN 4 (ctl1 g38p1))) (eE := ((14, .str a0) :: (13, .bool false) :: E1)) (H' := (mkH [])) (by kernel_rfl) ?_
   refine oC (fun (x0_4 : Int) => .int .i64 x0_4) (atN 5 (ctl1 g38p1)) (fun x0_4 => ((15, .int .i64 x0_4) :: (14, .str a0) :: (13, .bool false) :: E1)) (fi := 76) (args := [.str a0, .int .i64 0]) (by kernel_rfl) (by kernel_rfl) (fun _ => by kernel_rfl) (fun r h => g76_ok k a0 (0 : Int) r h) (fun _ => by kernel_rfl) (fun x0_4 hx0_4 => ?_)
   let E23 : Env := ((19, .bool (!decide (x0_4 = (a0.length : Int)))) :: (18, .bool (!decide (x0_4 = (a0.length : Int)))) :: (17, .int .i64 (a0.length : Int)) :: (16, .str a0) :: (15, .int .i64 x0_4) :: (14, .str a0) :: (13, .bool false) :: E1)
   refine oR 5 (p' := g38p2) (eE := E23) (H' := (mkH [])) (by kernel_rfl) ?_
   refine oK [0, 19] (eE := [(0, .str a0), (19, .bool (!decide (x0_4 = (a0.length : Int))))]) (by kernel_rfl) ?_
   exact hj6 (!decide (x0_4 = (a0.length : Int)))
end
end Go.Proofs.Ytabhkocokojddaa.Am
set_option maxRecDepth 100000
set_option linter.unusedVariables false
set_option linter.unusedSimpArgs false
namespace Go.Proofs.Ytabhkocokojddaa.Am
open Go
theorem front_v' (s : List Nat) : frontN s = (0, 10) ∨ ∃ m r, s.drop m = 35 :: r := by
 unfold frontN
 split
 ·rename_i a b r
  split
  ·split
   ·rename_i hb; subst hb
    exact .inr ⟨1, r, rfl⟩
   ·split
    ·split
     ·rename_i c r'
      split
      ·rename_i hx; obtain ⟨rfl, -⟩ := hx
       exact .inr ⟨2, r', rfl⟩
      ·exact .inl rfl
     ·exact .inl rfl
    ·exact .inl rfl
  ·exact .inl rfl
 ·exact .inl rfl
def valO (b : Nat) : Nat → List Nat → Option Nat
 | v, [] => some v
 | v, c :: r => if c = 95 then valO b v r else if v * b + dgN c < 18446744073709551616 then valO b (v * b + dgN c) r else none
def intN (s : List Nat) : Int × Int := if s = [] ∨ wholeN s ≠ s.length then (0, 8) else match valO (frontN s).2 0 (s.drop (frontN s).1) with | some v => ((v : Int), 0) | none => (0, 6)
theorem fu {n : Int} (h1 : 0 ≤ n) (h2 : n < 18446744073709551616) : fW .u64 n = n := by rw [fwrap_u64, Int.emod_eq_of_lt h1 h2]
theorem shl32 (x : Nat) : shlC .u64 (x : Int) 32 = ((x * 4294967296 % 18446744073709551616 : Nat) : Int) := by
 unfold shlC
 rw [fwrap_u64]
 have : (x : Int) * 2 ^ 32 = ((x * 4294967296 : Nat) : Int) := by
  rw [show (2 : Int) ^ 32 = 4294967296 from rfl]; exact (Int.natCast_mul x 4294967296).symm
 rw [this]; omega
theorem or32u {a m : Nat} (ha : a < 4294967296) (hm : m < 4294967296) : orI .u64 ((a * 4294967296 : Nat) : Int) (m : Int) = ((a * 4294967296 + m : Nat) : Int) := by
 unfold orI
 have e2 : ∀ x : Nat, x < 18446744073709551616 → (BitVec.ofInt IntKind.u64.bits (x : Int)).toNat = x := by
  intro x hx
  show (BitVec.ofInt 64 (x : Int)).toNat = x
  rw [BitVec.toNat_ofInt]
  omega
 rw [BitVec.toNat_or, e2 _ (by omega), e2 _ (by omega)]
 have e3 : a * 4294967296 ||| m = a * 4294967296 + m := by
  have h := Nat.two_pow_add_eq_or_of_lt (i := 32) (b := m) (by omega) a
  rw [Nat.mul_comm a 4294967296]
  exact h.symm
 rw [e3, fu (by omega) (by omega)]
theorem halves {v b d : Nat} (hv : v < 18446744073709551616) (hb : b ≤ 36) (hd : d ≤ 99) :
 shrC (v : Int) 32 = ((v / 4294967296 : Nat) : Int) ∧ shrC (shlC .u64 (v : Int) 32) 32 = ((v % 4294967296 : Nat) : Int) ∧
 fW .u64 (fW .u64 (((v % 4294967296 : Nat) : Int) * fW .u64 (b : Int)) + fW .u64 (d : Int)) = ((v % 4294967296 * b + d : Nat) : Int) ∧
 shrC (((v % 4294967296 * b + d : Nat) : Int)) 32 = (((v % 4294967296 * b + d) / 4294967296 : Nat) : Int) ∧
 fW .u64 (fW .u64 (((v / 4294967296 : Nat) : Int) * fW .u64 (b : Int)) + (((v % 4294967296 * b + d) / 4294967296 : Nat) : Int)) = ((v / 4294967296 * b + (v % 4294967296 * b + d) / 4294967296 : Nat) : Int) := by
 have p : (2 : Nat) ^ 32 = 4294967296 := rfl
 have hl : v % 4294967296 < 4294967296 := Nat.mod_lt _ (by decide)
 have hh : v / 4294967296 < 4294967296 := by omega
 have m1 : v % 4294967296 * b ≤ 4294967296 * 36 := Nat.mul_le_mul (Nat.le_of_lt hl) hb
 have m2 : v / 4294967296 * b ≤ 4294967296 * 36 := Nat.mul_le_mul (Nat.le_of_lt hh) hb
 refine ⟨by rw [shrC_nat, p], ?_, ?_, by rw [shrC_nat, p], ?_⟩
 ·rw [shl32, shrC_nat, p]
  congr 1
  omega
 ·rw [fu (n := (b : Int)) (by omega) (by omega), fu (n := (d : Int)) (by omega) (by omega)]
  have e : ((v % 4294967296 : Nat) : Int) * (b : Int) = ((v % 4294967296 * b : Nat) : Int) := (Int.natCast_mul _ _).symm
  rw [e, fu (n := ((v % 4294967296 * b : Nat) : Int)) (by omega) (by omega)]
  have e2 : ((v % 4294967296 * b : Nat) : Int) + (d : Int) = ((v % 4294967296 * b + d : Nat) : Int) := (Int.natCast_add _ _).symm
  rw [e2, fu (by omega) (by omega)]
 ·rw [fu (n := (b : Int)) (by omega) (by omega)]
  have e : ((v / 4294967296 : Nat) : Int) * (b : Int) = ((v / 4294967296 * b : Nat) : Int) := (Int.natCast_mul _ _).symm
  rw [e, fu (n := ((v / 4294967296 * b : Nat) : Int)) (by omega) (by omega)]
  have e2 : ((v / 4294967296 * b : Nat) : Int) + (((v % 4294967296 * b + d) / 4294967296 : Nat) : Int) = ((v / 4294967296 * b + (v % 4294967296 * b + d) / 4294967296 : Nat) : Int) := (Int.natCast_add _ _).symm
  rw [e2, fu (by omega) (by omega)]
theorem whole_v {v b d : Nat} : v * b + d = (v / 4294967296 * b + (v % 4294967296 * b + d) / 4294967296) * 4294967296 + (v % 4294967296 * b + d) % 4294967296 := by
 have h1 : v * b = v / 4294967296 * b * 4294967296 + v % 4294967296 * b := by
  conv => lhs; rw [← Nat.div_add_mod v 4294967296]
  rw [Nat.add_mul, Nat.mul_comm 4294967296, Nat.mul_assoc, Nat.mul_comm 4294967296, ← Nat.mul_assoc]
 generalize v / 4294967296 * b = A at *
 generalize v % 4294967296 * b = B at *
 omega
theorem int_over (k : Nat) {s : List Nat} (hs : By s) (hl : Sz s) (x1 : Int × Int) : ∀ (f i : Nat) (y : Int), s.length < i + f → i ≤ s.length → g37_l5 k s x1 f y true (i : Int) = some (0, 6)
 | 0, i, y, h, h2 => by omega
 | f + 1, i, y, h, h2 => by
  have hl' := hl
  unfold Sz at hl
  rw [g37_l5_s]
  rcases Nat.lt_or_ge i s.length with hi | hi
  ·obtain ⟨c, r, hc, hr, hm, hrl⟩ := dcons hi
   have nc := nthX (x := (i : Int)) rfl hc
   have ih := fun y => int_over k hs hl' x1 f (i + 1) y (by omega) (by omega)
   refine iT (dT (by omega)) ?_
   refine bS (by (try simp (disch := omega) only [fwI]); exact nc) ?_
   by_cases h95 : c = 95
   ·refine (jS (v := (y, true, (i : Int))) (fun j => iT (dT (by omega)) rfl)).trans ?_
    show g37_l5 k s x1 f y true (fW .i64 ((i : Int) + 1)) = _
    rw [fw_s (by omega)]
    exact ih y
   ·refine jD ?_
    refine iF (dF (by omega)) ?_
    refine bS (by (try simp (disch := omega) only [fwI]); exact nc) ?_
    refine bS (by (try simp (disch := omega) only [fwI]); exact digit_at k (hs c hm)) ?_
    refine jD ?_
    refine iT rfl ?_
    show g37_l5 k s x1 f _ true (fW .i64 ((i : Int) + 1)) = _
    rw [fw_s (by omega)]
    exact ih _
  ·exact iF (dF (by omega)) rfl
theorem int_l (k : Nat) {s : List Nat} (hs : By s) (hl : Sz s) {b : Nat} (a0 : Int) (hb : b ≤ 36) : ∀ (f i v : Nat), s.length < i + f → i ≤ s.length → v < 18446744073709551616 →
 g37_l5 k s (a0, (b : Int)) f (v : Int) false (i : Int) = some (match valO b v (s.drop i) with | some w => ((w : Int), 0) | none => (0, 6))
 | 0, i, v, h, h2, hv => by omega
 | f + 1, i, v, h, h2, hv => by
  have hl' := hl
  unfold Sz at hl
  rw [g37_l5_s]
  rcases Nat.lt_or_ge i s.length with hi | hi
  ·obtain ⟨c, r, hc, hr, hm, hrl⟩ := dcons hi
   have nc := nthX (x := (i : Int)) rfl hc
   have ih := fun v hv => int_l k hs hl' a0 hb f (i + 1) v (by omega) (by omega) hv
   rw [hr] at ih
   rw [hc]
   refine iT (dT (by omega)) ?_
   refine bS (by (try simp (disch := omega) only [fwI]); exact nc) ?_
   simp only [valO]
   by_cases h95 : c = 95
   ·rw [if_pos h95]
    refine (jS (v := ((v : Int), false, (i : Int))) (fun j => iT (dT (by omega)) rfl)).trans ?_
    show g37_l5 k s (a0, (b : Int)) f (v : Int) false (fW .i64 ((i : Int) + 1)) = _
    rw [fw_s (by omega)]
    exact ih v hv
   ·rw [if_neg h95]
    have hd := dg_le c
    obtain ⟨q1, q2, q3, q4, q5⟩ := halves hv hb hd
    have wv := whole_v (v := v) (b := b) (d := dgN c)
    refine jD ?_
    refine iF (dF (by omega)) ?_
    refine bS (by (try simp (disch := omega) only [fwI]); exact nc) ?_
    refine bS (by (try simp (disch := omega) only [fwI]); exact digit_at k (hs c hm)) ?_
    rw [q1, q2, q3, q4, q5]
    clear q1 q2 q3 q4 q5
    have lw : v % 4294967296 * b + dgN c ≤ 154618822800 := by
     have : v % 4294967296 * b ≤ 4294967296 * 36 := Nat.mul_le_mul (by omega) hb
     omega
    have hh : v / 4294967296 * b ≤ 154618822656 := Nat.mul_le_mul (show v / 4294967296 ≤ 4294967296 by omega) hb
    generalize v / 4294967296 * b + (v % 4294967296 * b + dgN c) / 4294967296 = H at *
    generalize v % 4294967296 * b + dgN c = W at *
    have p : (2 : Nat) ^ 32 = 4294967296 := rfl
    have s1 : shrC (H : Int) 32 = ((H / 4294967296 : Nat) : Int) := by rw [shrC_nat, p]
    have s2 : shrC (shlC .u64 (W : Int) 32) 32 = ((W % 4294967296 : Nat) : Int) := by
     rw [shl32, shrC_nat, p]; congr 1; omega
    refine jD ?_
    refine iF rfl ?_
    show g37_l5 k s (a0, (b : Int)) f (orI .u64 (shlC .u64 (H : Int) 32) (shrC (shlC .u64 (W : Int) 32) 32)) (!decide (shrC (H : Int) 32 = 0)) (fW .i64 ((i : Int) + 1)) = _
    rw [s1, s2, fw_s (by omega)]
    clear s1 s2
    by_cases ho : H < 4294967296
    ·rw [if_pos (by omega), dT (by omega), shl32, Nat.mod_eq_of_lt (by omega), or32u ho (Nat.mod_lt _ (by decide)), wv]
     exact ih _ (by omega)
    ·rw [if_neg (by omega), dF (by omega)]
     exact int_over k hs hl' _ f (i + 1) _ (by omega) (by omega)
  ·rw [dnil hi]
   exact iF (dF (by omega)) (iF rfl rfl)
theorem Integer_at {k : Nat} {s : List Nat} (hk : s.length < k) (hk4 : 4 ≤ k) (hs : By s) (hl : Sz s) : g37 k s = some (intN s) := by
 unfold g37 intN
 by_cases h : s = [] ∨ wholeN s ≠ s.length
 ·rw [if_pos h]
  refine (jS (v := true) (fun j => ?_)).trans rfl
  by_cases h1 : s = []
  ·subst h1; rfl
  ·have e : eqL s [] = false := by cases s with | nil => exact absurd rfl h1 | cons _ _ => rfl
   refine iF e ?_
   refine bS (by (try simp (disch := omega) only [fwI]); exact whole_at hk hk4 hs hl) ?_
   rw [dF (show ¬ ((wholeN s : Nat) : Int) = (s.length : Int) from fun hh => (h.resolve_left h1) (by omega))]
   rfl
 ·rw [if_neg h]
  have h1 : s ≠ [] := fun e => h (.inl e)
  have h2 : wholeN s = s.length := Classical.byContradiction fun e => h (.inr e)
  have e : eqL s [] = false := by cases s with | nil => exact absurd rfl h1 | cons _ _ => rfl
  refine (jS (v := false) (fun j => ?_)).trans ?_
  ·refine iF e ?_
   refine bS (by (try simp (disch := omega) only [fwI]); exact whole_at hk hk4 hs hl) ?_
   rw [dT (by omega)]
   rfl
  ·refine iF rfl ?_
   refine bS (by (try simp (disch := omega) only [fwI]); exact front_at hk hk4 hs hl) ?_
   obtain ⟨f1, f2⟩ := frontN_le s
   exact int_l k hs hl ((frontN s).1 : Int) f2 k (frontN s).1 0 (by omega) f1 (by decide)
theorem run_full {b : Nat} : ∀ (p : Bool) (s : List Nat), runN b p s = s.length → ∀ c ∈ s, c = 95 ∨ dgN c < b
 | _, [], _, c, hc => by cases hc
 | p, d :: r, h, c, hc => by
  rw [runN_cons] at h
  by_cases h1 : dgN d < b
  ·rw [if_pos h1, List.length_cons] at h
   rcases List.mem_cons.1 hc with rfl | hc
   ·exact .inr h1
   ·exact run_full true r (by omega) c hc
  ·rw [if_neg h1] at h
   by_cases h2 : (p && decide (d = 95) && isD b r) = true
   ·rw [if_pos h2, List.length_cons] at h
    rcases List.mem_cons.1 hc with rfl | hc
    ·simp only [Bool.and_eq_true, decide_eq_true_eq] at h2; exact .inl h2.1.2
    ·exact run_full false r (by omega) c hc
   ·rw [if_neg h2] at h; simp at h
theorem rint_l (k : Nat) {s : List Nat} (hs : By s) (hl : Sz s) {b : Nat} (hb : 1 ≤ b ∧ b ≤ 36) : ∀ (f i v : Nat), s.length < i + f → i ≤ s.length → v < 18446744073709551616 → (∀ c ∈ s.drop i, c = 95 ∨ dgN c < b) →
 g38_l10 k s f (v : Int) (i : Int) (b : Int) = some (match valO b v (s.drop i) with | some w => ((w : Int), 0) | none => (0, 6))
 | 0, i, v, h, h2, hv, hd => by omega
 | f + 1, i, v, h, h2, hv, hd => by
  have hl' := hl
  unfold Sz at hl
  rw [g38_l10_s]
  rcases Nat.lt_or_ge i s.length with hi | hi
  ·obtain ⟨c, r, hc, hr, hm, hrl⟩ := dcons hi
   have nc := nthX (x := (i : Int)) rfl hc
   rw [hc] at hd
   have ih := fun v hv => rint_l k hs hl' hb f (i + 1) v (by omega) (by omega) hv (by rw [hr]; exact fun x hx => hd x (List.mem_cons_of_mem _ hx))
   rw [hr] at ih
   rw [hc]
   refine iT (dT (by omega)) ?_
   refine bS (by (try simp (disch := omega) only [fwI]); exact nc) ?_
   simp only [valO]
   by_cases h95 : c = 95
   ·rw [if_pos h95]
    refine (jS (v := ((v : Int), (i : Int), (b : Int))) (fun j => iT (dT (by omega)) rfl)).trans ?_
    show g38_l10 k s f (v : Int) (fW .i64 ((i : Int) + 1)) (b : Int) = _
    rw [fw_s (by omega)]
    exact ih v hv
   ·rw [if_neg h95]
    have hdc : dgN c < b := (hd c List.mem_cons_self).resolve_left h95
    have vc := value_at k (b := b) (hs c hm) (by omega)
    rw [if_pos hdc] at vc
    have qq : quoS .u64 (fW .u64 (18446744073709551615 - fW .u64 ((dgN c : Nat) : Int))) (fW .u64 (b : Int)) = some (((18446744073709551615 - dgN c) / b : Nat) : Int) := by
     rw [fu (n := ((dgN c : Nat) : Int)) (by omega) (by omega), fu (n := (b : Int)) (by omega) (by omega), fu (n := 18446744073709551615 - ((dgN c : Nat) : Int)) (by omega) (by omega)]
     unfold quoS
     rw [if_neg (by omega)]
     have e : (18446744073709551615 - ((dgN c : Nat) : Int)) = ((18446744073709551615 - dgN c : Nat) : Int) := by omega
     rw [e, show ((18446744073709551615 - dgN c : Nat) : Int).tdiv (b : Int) = (((18446744073709551615 - dgN c) / b : Nat) : Int) from rfl]
     have : (18446744073709551615 - dgN c) / b ≤ 18446744073709551615 - dgN c := Nat.div_le_self _ _
     generalize (18446744073709551615 - dgN c) / b = Q at *
     rw [fu (by omega) (by omega)]
    have key : (18446744073709551615 - dgN c) / b < v ↔ ¬ v * b + dgN c < 18446744073709551616 := by
     rw [Nat.div_lt_iff_lt_mul (by omega)]
     omega
    refine jD ?_
    refine iF (dF (by omega)) ?_
    refine bS (by (try simp (disch := omega) only [fwI]); exact nc) ?_
    refine bS (by (try simp (disch := omega) only [fwI]); exact vc) ?_
    refine bS (by (try simp (disch := omega) only [fwI]); exact qq) ?_
    clear qq
    by_cases ho : v * b + dgN c < 18446744073709551616
    ·rw [if_pos ho]
     refine iF (dF (by omega)) ?_
     show g38_l10 k s f (fW .u64 (fW .u64 ((v : Int) * fW .u64 (b : Int)) + fW .u64 ((dgN c : Nat) : Int))) (fW .i64 ((i : Int) + 1)) (b : Int) = _
     have e : (v : Int) * (b : Int) = ((v * b : Nat) : Int) := (Int.natCast_mul _ _).symm
     rw [fu (n := (b : Int)) (by omega) (by omega), fu (n := ((dgN c : Nat) : Int)) (by omega) (by omega), e, fu (n := ((v * b : Nat) : Int)) (by omega) (by omega)]
     have e2 : ((v * b : Nat) : Int) + ((dgN c : Nat) : Int) = ((v * b + dgN c : Nat) : Int) := (Int.natCast_add _ _).symm
     rw [e2, fu (by omega) (by omega), fw_s (by omega)]
     exact ih _ ho
    ·rw [if_neg ho]
     exact iT (dT (by omega)) rfl
  ·rw [dnil hi]
   exact iF (dF (by omega)) rfl
theorem rint_p (k : Nat) {s : List Nat} (hs : By s) (hl : Sz s) (B F : Int) {R : Option (Int × Int)} (hR : g38_l10 k s k 0 F B = R) : ∀ (f i : Nat), s.length < i + f → i ≤ s.length → 35 ∉ s.drop i →
 g38_l7 k s f (i : Int) B F = R
 | 0, i, h, h2, hd => by omega
 | f + 1, i, h, h2, hd => by
  have hl' := hl
  unfold Sz at hl
  rw [g38_l7_s]
  rcases Nat.lt_or_ge i s.length with hi | hi
  ·obtain ⟨c, r, hc, hr, hm, hrl⟩ := dcons hi
   have nc := nthX (x := (i : Int)) rfl hc
   rw [hc] at hd
   have ih := rint_p k hs hl' B F hR f (i + 1) (by omega) (by omega) (by rw [hr]; exact fun hx => hd (List.mem_cons_of_mem _ hx))
   have c35 : c ≠ 35 := fun e => hd (e ▸ List.mem_cons_self)
   refine iT (dT (by omega)) ?_
   refine bS (by (try simp (disch := omega) only [fwI]); exact nc) ?_
   refine (jS (v := ((i : Int), B, F)) (fun j => iF (dF (by omega)) rfl)).trans ?_
   show g38_l7 k s f (fW .i64 ((i : Int) + 1)) B F = _
   rw [fw_s (by omega)]
   exact ih
  ·exact iF (dF (by omega)) hR
theorem rint_8 (k : Nat) {s : List Nat} (hs : By s) (hl : Sz s) (c9 : Int × Int × Int → Option (Int × Int)) (F : Int) {m i c V : Nat} {r : List Nat} (hc : s.drop i = c :: r) (hd : dgN c < 10) (hi : i < m) (hm : m ≤ s.length) (hV : V ≤ 9) (f : Nat) :
 g38_l8 k c9 s (f + 1) F (m : Int) (V : Int) (i : Int) = g38_l8 k c9 s f F (m : Int) ((10 * V + dgN c : Nat) : Int) ((i + 1 : Nat) : Int) := by
 unfold Sz at hl
 rw [g38_l8_s]
 have c256 := hs c (drop_mem hc)
 refine iT (dT (by omega)) ?_
 refine bS (by (try simp (disch := omega) only [fwI]); exact nthX rfl hc) ?_
 rw [dg10 c256 hd]
 have e1 : ((V : Int) * 10 + (dgN c : Nat)) = ((10 * V + dgN c : Nat) : Int) := by omega
 rw [fwI (n := (V : Int) * 10) (by omega) (by omega), e1, fwI (by omega) (by omega), fw_s (by omega)]
theorem rint_e (k : Nat) (s : List Nat) (c9 : Int × Int × Int → Option (Int × Int)) (F V : Int) (m f : Nat) : g38_l8 k c9 s (f + 1) F (m : Int) V (m : Int) = c9 ((m : Int), V, F) := by
 rw [g38_l8_s]
 exact iF (dF (by omega)) rfl
theorem rInteger_at {k : Nat} {s : List Nat} (hk : s.length < k) (hk4 : 4 ≤ k) (hs : By s) (hl : Sz s) : g38 k s = some (intN s) := by
 have hl' := hl
 unfold g38 intN
 have rw0 : g76 k s 0 = some ((wholeN s : Nat) : Int) := by
  have := rwhole_at hk hk4 hs hl (a := 0) (Nat.zero_le _)
  rwa [List.drop_zero] at this
 by_cases h : s = [] ∨ wholeN s ≠ s.length
 ·rw [if_pos h]
  refine (jS (v := true) (fun j => ?_)).trans rfl
  by_cases h1 : s = []
  ·subst h1; rfl
  ·have e : eqL s [] = false := by cases s with | nil => exact absurd rfl h1 | cons _ _ => rfl
   refine iF e ?_
   refine bS (by (try simp (disch := omega) only [fwI]); exact rw0) ?_
   rw [dF (show ¬ ((wholeN s : Nat) : Int) = (s.length : Int) from fun hh => (h.resolve_left h1) (by omega))]
   rfl
 ·rw [if_neg h]
  have h1 : s ≠ [] := fun e => h (.inl e)
  have h2 : wholeN s = s.length := Classical.byContradiction fun e => h (.inr e)
  have e : eqL s [] = false := by cases s with | nil => exact absurd rfl h1 | cons _ _ => rfl
  refine (jS (v := false) (fun j => ?_)).trans ?_
  ·refine iF e ?_
   refine bS (by (try simp (disch := omega) only [fwI]); exact rw0) ?_
   rw [dT (by omega)]
   rfl
  ·refine iF rfl ?_
   unfold Sz at hl
   by_cases hc : 0 < (frontN s).1 ∧ 0 < runN (frontN s).2 false (s.drop (frontN s).1)
   ·have hw : wholeN s = (frontN s).1 + runN (frontN s).2 false (s.drop (frontN s).1) := by unfold wholeN; rw [if_pos hc]
    have fr : runN (frontN s).2 false (s.drop (frontN s).1) = (s.drop (frontN s).1).length := by rw [List.length_drop]; omega
    have all := run_full false _ fr
    have no35 : 35 ∉ s.drop (frontN s).1 := by
     intro hh
     rcases all 35 hh with h | h
     ·cases h
     ·have : dgN 35 = 99 := by decide
      have := (frontN_le s).2
      omega
    have fin : ∀ (V fr' : Nat), frontN s = (fr', V) → 1 ≤ V → g38_l10 k s k 0 (fr' : Int) (V : Int) = some (match valO (frontN s).2 0 (s.drop (frontN s).1) with | some v => ((v : Int), 0) | none => (0, 6)) := by
     intro V fr' hf hV
     have f2 := (frontN_le s).2
     have f1 := (frontN_le s).1
     rw [hf] at all f2 f1 ⊢
     exact rint_l k hs hl' ⟨hV, f2⟩ k fr' 0 (by omega) f1 (by decide) all
    obtain ⟨k', rfl⟩ : ∃ k', k = k' + 4 := ⟨k - 4, by omega⟩
    revert fin no35
    have hcase := hc.1
    clear rw0 h hw fr all hc h2
    cases hs0 : s with
    | nil => exact absurd hs0 h1
    | cons a r =>
     cases hr0 : r with
     | nil => rw [hs0, hr0] at hcase; simp [frontN] at hcase
     | cons b r2 =>
      rw [← hr0, ← hs0]
      have d0 : s.drop 0 = a :: b :: r2 := by rw [List.drop_zero, hs0, hr0]
      have d1 : s.drop 1 = b :: r2 := drop_step d0
      have d2 : s.drop 2 = r2 := drop_step d1
      have n0 : nthS s 0 = some (a : Int) := nthX (i := 0) rfl d0
      have n1 : nthS s ((1 : Nat) : Int) = some (b : Int) := nthX rfl d1
      have a256 := hs a (drop_mem d0)
      have b256 := hs b (drop_mem d1)
      have lens : s.length = r2.length + 2 := by rw [hs0, hr0]; rfl
      by_cases ha : dgN a < 10
      ·have a35 : a ≠ 35 := by rintro rfl; revert ha; decide
       by_cases hb : b = 35
       ·have hf : frontN s = (2, dgN a) := by
         rw [hs0, hr0] at hcase ⊢
         simp only [frontN, ha, hb, if_true] at hcase ⊢
         by_cases h2 : 2 ≤ dgN a
         ·rw [if_pos h2]
         ·rw [if_neg h2] at hcase; exact absurd hcase (by decide)
        intro no35 fin
        rw [hf] at no35
        have h2a : 2 ≤ dgN a := by
         rw [hs0, hr0] at hf
         simp only [frontN, ha, hb, if_true] at hf
         by_cases h2 : 2 ≤ dgN a
         ·exact h2
         ·rw [if_neg h2] at hf; cases hf
        have ft := fin (dgN a) 2 hf (by omega)
        rw [g38_l7_s]
        refine iT (dT (by omega)) ?_
        refine bS (by (try simp (disch := omega) only [fwI]); exact n0) ?_
        refine (jS (v := ((0 : Int), (10 : Int), (0 : Int))) (fun j => iF (dF (by omega)) rfl)).trans ?_
        show g38_l7 (k' + 4) s (k' + 3) ((1 : Nat) : Int) 10 0 = _
        rw [g38_l7_s]
        refine iT (dT (by omega)) ?_
        refine bS (by (try simp (disch := omega) only [fwI]); exact n1) ?_
        refine (jS (v := (((1 : Nat) : Int), (dgN a : Int), ((2 : Nat) : Int))) (fun j => ?_)).trans ?_
        ·refine iT (dT (by omega)) ?_
         have st := rint_8 (k' + 4) hs hl' j ((2 : Nat) : Int) (m := 1) (V := 0) d0 ha (by decide) (by omega) (by decide) (k' + 3)
         refine (show g38_l8 (k' + 4) j s (k' + 4) ((2 : Nat) : Int) ((1 : Nat) : Int) ((0 : Nat) : Int) ((0 : Nat) : Int) = _ from st).trans ?_
         rw [show 10 * 0 + dgN a = dgN a by omega]
         exact rint_e (k' + 4) s j _ _ 1 (k' + 2)
        ·show g38_l7 (k' + 4) s (k' + 2) ((2 : Nat) : Int) (dgN a : Int) ((2 : Nat) : Int) = _
         exact rint_p (k' + 4) hs hl' _ _ ft (k' + 2) 2 (by omega) (by omega) no35
       ·cases hr2 : r2 with
        | nil => rw [hs0, hr0, hr2] at hcase; simp only [frontN, ha, hb, if_true, if_false] at hcase; split at hcase <;> exact absurd hcase (by decide)
        | cons c r3 =>
         have d2' : s.drop 2 = c :: r3 := by rw [d2, hr2]
         have n2 : nthS s ((2 : Nat) : Int) = some (c : Int) := nthX rfl d2'
         have l3 : r2.length = r3.length + 1 := by rw [hr2]; rfl
         have hf : dgN b < 10 ∧ c = 35 ∧ 2 ≤ 10 * dgN a + dgN b ∧ frontN s = (3, 10 * dgN a + dgN b) := by
          rw [hs0, hr0, hr2] at hcase ⊢
          simp only [frontN, ha, hb, if_true, if_false] at hcase ⊢
          by_cases hb2 : dgN b < 10
          ·rw [if_pos hb2] at hcase ⊢
           by_cases hx : c = 35 ∧ 2 ≤ 10 * dgN a + dgN b ∧ 10 * dgN a + dgN b ≤ 36
           ·rw [if_pos hx]; exact ⟨hb2, hx.1, hx.2.1, rfl⟩
           ·rw [if_neg hx] at hcase; exact absurd hcase (by decide)
          ·rw [if_neg hb2] at hcase; exact absurd hcase (by decide)
         obtain ⟨hb2, hc35, hge, hf⟩ := hf
         intro no35 fin
         rw [hf] at no35
         have ft := fin (10 * dgN a + dgN b) 3 hf (by omega)
         rw [g38_l7_s]
         refine iT (dT (by omega)) ?_
         refine bS (by (try simp (disch := omega) only [fwI]); exact n0) ?_
         refine (jS (v := ((0 : Int), (10 : Int), (0 : Int))) (fun j => iF (dF (by omega)) rfl)).trans ?_
         show g38_l7 (k' + 4) s (k' + 3) ((1 : Nat) : Int) 10 0 = _
         rw [g38_l7_s]
         refine iT (dT (by omega)) ?_
         refine bS (by (try simp (disch := omega) only [fwI]); exact n1) ?_
         refine (jS (v := (((1 : Nat) : Int), (10 : Int), (0 : Int))) (fun j => iF (dF (by omega)) rfl)).trans ?_
         show g38_l7 (k' + 4) s (k' + 2) ((2 : Nat) : Int) 10 0 = _
         rw [g38_l7_s]
         refine iT (dT (by omega)) ?_
         refine bS (by (try simp (disch := omega) only [fwI]); exact n2) ?_
         refine (jS (v := (((2 : Nat) : Int), ((10 * dgN a + dgN b : Nat) : Int), ((3 : Nat) : Int))) (fun j => ?_)).trans ?_
         ·refine iT (dT (by omega)) ?_
          have st := rint_8 (k' + 4) hs hl' j ((3 : Nat) : Int) (m := 2) (V := 0) d0 ha (by decide) (by omega) (by decide) (k' + 3)
          have st2 := rint_8 (k' + 4) hs hl' j ((3 : Nat) : Int) (m := 2) (V := 10 * 0 + dgN a) d1 hb2 (by decide) (by omega) (by omega) (k' + 2)
          refine (show g38_l8 (k' + 4) j s (k' + 4) ((3 : Nat) : Int) ((2 : Nat) : Int) ((0 : Nat) : Int) ((0 : Nat) : Int) = _ from st).trans (st2.trans ?_)
          rw [show 10 * (10 * 0 + dgN a) + dgN b = 10 * dgN a + dgN b by omega]
          exact rint_e (k' + 4) s j _ _ 2 (k' + 1)
         ·show g38_l7 (k' + 4) s (k' + 1) ((3 : Nat) : Int) ((10 * dgN a + dgN b : Nat) : Int) ((3 : Nat) : Int) = _
          exact rint_p (k' + 4) hs hl' _ _ ft (k' + 1) 3 (by omega) (by omega) no35
      ·rw [hs0, hr0] at hcase; simp only [frontN, ha, if_false] at hcase; exact absurd hcase (by decide)
   ·have hw : wholeN s = runN 10 false s := by unfold wholeN; rw [if_neg hc]
    have all := run_full false s (by omega : runN 10 false s = s.length)
    have no35 : 35 ∉ s := by
     intro hh
     rcases all 35 hh with h | h
     ·cases h
     ·revert h; decide
    have hf : frontN s = (0, 10) := by
     rcases front_v' s with h | ⟨m, r, hm⟩
     ·exact h
     ·exact absurd (List.mem_of_mem_drop (i := m) (by rw [hm]; exact List.mem_cons_self)) no35
    rw [hf]
    exact rint_p k hs hl' 10 0 (rint_l k hs hl' (b := 10) (by decide) k 0 0 (by omega) (by omega) (by decide) (by rw [List.drop_zero]; exact all)) k 0 (by omega) (by omega) (by rw [List.drop_zero]; exact no35)
end Go.Proofs.Ytabhkocokojddaa.Am
set_option maxRecDepth 100000
set_option linter.unusedVariables false
set_option linter.unusedSimpArgs false
namespace Go.Proofs.Ytabhkocokojddaa.Am
open Go
theorem pow64_le {i : Nat} (h : i ≤ 3) : 64 ^ i ≤ 262144 := by
 have : i = 0 ∨ i = 1 ∨ i = 2 ∨ i = 3 := by omega
 obtain rfl | rfl | rfl | rfl := this <;> decide
theorem pow64_step {y i b : Nat} (h : y < 64 ^ i) : y * 64 + b % 64 < 64 ^ (i + 1) := by
 rw [Nat.pow_succ]
 have := Nat.mod_lt b (by decide : 0 < 64)
 generalize 64 ^ i = P at h ⊢
 omega
theorem next_l (k : Nat) (s : List Nat) (hs : ∀ b ∈ s, b < 256) (hl : s.length ≤ 140737488351232) (at' n q : Nat) (hn : n ≤ 4) (hat : at' + n ≤ s.length) : ∀ (d m i y : Nat), i + d = n → 1 ≤ i → y < 64 ^ i →
 g78_l5 k s (at' : Int) ((n : Int), (q : Int)) (d + 1 + m) (y : Int) (i : Int) = some (fitN n (moreN d y (s.drop (at' + i))))
 | 0, m, i, y, hi, h1, hy => by
  rw [show 0 + 1 + m = m + 1 from by omega, g78_l5_s]
  have e1 : decide ((i : Int) < (n : Int)) = false := by simp; omega
  simp only [e1, least_at hn, cp_at, moreN, fitN, Option.bind_some, jn]
  by_cases h : leastN n ≤ y
  ·have e2 : decide ((y : Int) < ((leastN n : Nat) : Int)) = false := by simp; omega
   cases hc : cpN y <;> simp [e2, h, hc]
  ·have e2 : decide ((y : Int) < ((leastN n : Nat) : Int)) = true := by simp; omega
   simp [e2, h]
 | d + 1, m, i, y, hi, h1, hy => by
  rw [show d + 1 + 1 + m = (d + 1 + m) + 1 from by omega, g78_l5_s]
  have e1 : decide ((i : Int) < (n : Int)) = true := by simp; omega
  obtain ⟨b, r, hb, hr, hm⟩ := drop_cons (s := s) (i := at' + i) (by omega)
  have e2 : fW .i64 ((at' : Int) + (i : Int)) = ((at' + i : Nat) : Int) := by
   have : (at' : Int) + (i : Int) = ((at' + i : Nat) : Int) := by push_cast; rfl
   rw [this, fwn _ (by omega)]
  obtain ⟨b63, -, -, -, -⟩ := byte_ok (hs b hm)
  have hi4 : i ≤ 3 := by omega
  have a1 : i + 1 + d = n := by rw [← hi]; exact Nat.add_right_comm i 1 d
  have a2 : 1 ≤ i + 1 := Nat.le_add_left 1 i
  have a3 : y * 64 + b % 64 < 64 ^ (i + 1) := pow64_step hy
  have hp : 64 ^ i ≤ 262144 := pow64_le hi4
  have e3 : fW .i64 ((i : Int) + 1) = ((i + 1 : Nat) : Int) := by
   have : (i : Int) + 1 = ((i + 1 : Nat) : Int) := by push_cast; rfl
   rw [this, fwn _ (by omega)]
  have p6 : (2 : Nat) ^ 6 = 64 := rfl
  simp only [e1, e2, nthS_at hb, Option.bind_some, shrC_nat, p6, b63, if_true]
  by_cases h : b / 64 = 2
  ·have e4 : decide (((b / 64 : Nat) : Int) = 2) = true := by simp; omega
   have ih := next_l k s hs hl at' n q hn hat d m (i + 1) (y * 64 + b % 64) a1 a2 a3
   rw [e4, fwn _ (by omega : b % 64 ≤ 9223372036854775807), or_add _ _ (by omega) (by omega), e3, ih, hb, show at' + (i + 1) = at' + i + 1 from by omega, hr]
   simp [moreN, h]
  ·have e4 : decide (((b / 64 : Nat) : Int) = 2) = false := by simp; omega
   rw [e4, hb]
   simp [moreN, h, fitN]
theorem rnext_l (k : Nat) (s : List Nat) (hs : ∀ b ∈ s, b < 256) (hl : s.length ≤ 140737488351232) (at' n q : Nat) (hn : n ≤ 4) (hat : at' + n ≤ s.length) : ∀ (d m i y : Nat), i + d = n → 1 ≤ i → y < 64 ^ i →
 g72_l9 k s (at' : Int) ((q : Int), (n : Int), ((leastN n : Nat) : Int)) (d + 1 + m) (y : Int) (i : Int) = some (fitN n (moreN d y (s.drop (at' + i))))
 | 0, m, i, y, hi, h1, hy => by
  rw [show 0 + 1 + m = m + 1 from by omega, g72_l9_s]
  have e1 : decide ((i : Int) < (n : Int)) = false := by simp; omega
  simp only [e1, point_at, moreN, fitN, Option.bind_some, jn]
  by_cases h : leastN n ≤ y
  ·have e2 : decide ((y : Int) < ((leastN n : Nat) : Int)) = false := by simp; omega
   cases hc : cpN y <;> simp [e2, h, hc]
  ·have e2 : decide ((y : Int) < ((leastN n : Nat) : Int)) = true := by simp; omega
   simp [e2, h]
 | d + 1, m, i, y, hi, h1, hy => by
  rw [show d + 1 + 1 + m = (d + 1 + m) + 1 from by omega, g72_l9_s]
  have e1 : decide ((i : Int) < (n : Int)) = true := by simp; omega
  obtain ⟨b, r, hb, hr, hm⟩ := drop_cons (s := s) (i := at' + i) (by omega)
  have e2 : fW .i64 ((at' : Int) + (i : Int)) = ((at' + i : Nat) : Int) := by
   have : (at' : Int) + (i : Int) = ((at' + i : Nat) : Int) := by push_cast; rfl
   rw [this, fwn _ (by omega)]
  obtain ⟨b63, -, -, -, b192⟩ := byte_ok (hs b hm)
  have hi4 : i ≤ 3 := by omega
  have a1 : i + 1 + d = n := by rw [← hi]; exact Nat.add_right_comm i 1 d
  have a2 : 1 ≤ i + 1 := Nat.le_add_left 1 i
  have a3 : y * 64 + b % 64 < 64 ^ (i + 1) := pow64_step hy
  have hp : 64 ^ i ≤ 262144 := pow64_le hi4
  have e3 : fW .i64 ((i : Int) + 1) = ((i + 1 : Nat) : Int) := by
   have : (i : Int) + 1 = ((i + 1 : Nat) : Int) := by push_cast; rfl
   rw [this, fwn _ (by omega)]
  have e5 : fW .i64 (fW .i64 ((y : Int) * 64) + ((b % 64 : Nat) : Int)) = ((y * 64 + b % 64 : Nat) : Int) := by
   have : (y : Int) * 64 = ((y * 64 : Nat) : Int) := by push_cast; rfl
   rw [this, fwn _ (by omega)]
   have : ((y * 64 : Nat) : Int) + ((b % 64 : Nat) : Int) = ((y * 64 + b % 64 : Nat) : Int) := by push_cast; rfl
   rw [this, fwn _ (by omega)]
  simp only [e1, e2, nthS_at hb, Option.bind_some, b63, if_true]
  by_cases h : b / 64 = 2
  ·have e4 : decide (andI .u8 (b : Int) 192 = 128) = true := decide_eq_true (b192.2 h)
   have ih := rnext_l k s hs hl at' n q hn hat d m (i + 1) (y * 64 + b % 64) a1 a2 a3
   rw [e4, fwn _ (by omega : b % 64 ≤ 9223372036854775807), e5, e3, ih, hb, show at' + (i + 1) = at' + i + 1 from by omega, hr]
   simp [moreN, h]
  ·have e4 : decide (andI .u8 (b : Int) 192 = 128) = false := decide_eq_false (fun w => h (b192.1 w))
   rw [e4, hb]
   simp [moreN, h, fitN]
end Go.Proofs.Ytabhkocokojddaa.Am
set_option maxRecDepth 100000
set_option linter.unusedVariables false
set_option linter.unusedSimpArgs false
namespace Go.Proofs.Ytabhkocokojddaa.Am
open Go
theorem lead_le (c : Nat) : (leadN c).1 ≤ 4 := by
 unfold leadN; repeat' split
 all_goals simp
theorem lead_lt {c : Nat} (h : 2 ≤ (leadN c).1) : (leadN c).2 < 64 ^ 1 := by
 unfold leadN at *
 split at h
 ·simp at h
 ·rename_i h1
  rw [if_neg h1]
  repeat' split
  all_goals (simp only []; omega)
theorem next_at {k : Nat} (hk : 6 ≤ k) {s : List Nat} (hs : ∀ b ∈ s, b < 256) (hl : s.length ≤ 140737488351232) (i : Nat) : g78 k s (i : Int) = some (dec (s.drop i)) := by
 unfold g78
 have e0 : decide ((i : Int) < 0) = false := decide_eq_false (by omega)
 by_cases hi : i < s.length
 ·have e1 : decide ((s.length : Int) ≤ (i : Int)) = false := by simp; omega
  obtain ⟨c, r, hc, hr, hm⟩ := drop_cons hi
  have hc' := hs c hm
  have hrl : r.length + i + 1 = s.length := by rw [← hr, List.length_drop]; omega
  have e2 : fW .i64 ((s.length : Int) - (i : Int)) = ((r.length + 1 : Nat) : Int) := by
   have : (s.length : Int) - (i : Int) = ((r.length + 1 : Nat) : Int) := by omega
   rw [this, fwn _ (by omega)]
  simp only [e0, e1, nthS_at hc, lead_at hc', Option.bind_some, jn, e2, hc, dec]
  have l4 := lead_le c
  by_cases h0 : (leadN c).1 = 0
  ·simp [h0]
  ·have e3 : decide ((((leadN c).1 : Nat) : Int) = 0) = false := by simp; omega
   rw [if_neg h0, e3]
   by_cases h1 : r.length + 1 < (leadN c).1
   ·have e4 : decide (((r.length + 1 : Nat) : Int) < (((leadN c).1 : Nat) : Int)) = true := by simp only [decide_eq_true_eq]; omega
    rw [e4, moreN_none _ _ _ (by omega)]
    rfl
   ·have e4 : decide (((r.length + 1 : Nat) : Int) < (((leadN c).1 : Nat) : Int)) = false := by simp only [decide_eq_false_iff_not]; omega
    rw [e4]
    simp only [if_false, Bool.false_eq_true]
    by_cases h2 : (leadN c).1 = 1
    ·have w := next_l k s hs hl i 1 (leadN c).2 (by decide) (by omega) 0 (k - 1) 1
     obtain ⟨k', rfl⟩ : ∃ k', k = k' + 1 := ⟨k - 1, by omega⟩
     rw [h2, g78_l5_s]
     have e5 : decide ((1 : Int) < ((1 : Nat) : Int)) = false := by decide
     simp only [e5, least_at (by decide : 1 ≤ 4), cp_at, Option.bind_some, jn, moreN, fitN]
     have e6 : decide ((((leadN c).2 : Nat) : Int) < ((leastN 1 : Nat) : Int)) = false := by simp [leastN]
     rw [e6]
     have e7 : leastN 1 ≤ (leadN c).2 := by simp [leastN]
     cases hcp : cpN (leadN c).2 <;> simp [e7, moreN, hcp]
    ·have w := next_l k s hs hl i (leadN c).1 (leadN c).2 l4 (by omega) ((leadN c).1 - 1) (k - (leadN c).1) 1 (leadN c).2 (by omega) (by decide) (lead_lt (by omega))
     rw [show (leadN c).1 - 1 + 1 + (k - (leadN c).1) = k from by omega, hr] at w
     exact w
 ·have e1 : decide ((s.length : Int) ≤ (i : Int)) = true := by simp; omega
  rw [e0, e1, List.drop_eq_nil_of_le (by omega)]
  rfl
theorem rnext_at {k : Nat} (hk : 6 ≤ k) {s : List Nat} (hs : ∀ b ∈ s, b < 256) (hl : s.length ≤ 140737488351232) (i : Nat) : g72 k s (i : Int) = some (dec (s.drop i)) := by
 unfold g72
 have e0 : decide ((i : Int) < 0) = false := decide_eq_false (by omega)
 by_cases hi : i < s.length
 ·have e1 : decide ((s.length : Int) ≤ (i : Int)) = false := by simp; omega
  obtain ⟨c, r, hc, hr, hm⟩ := drop_cons hi
  have hc' := hs c hm
  have hrl : r.length + i + 1 = s.length := by rw [← hr, List.length_drop]; omega
  have e2 : fW .i64 ((s.length : Int) - (i : Int)) = ((r.length + 1 : Nat) : Int) := by
   have : (s.length : Int) - (i : Int) = ((r.length + 1 : Nat) : Int) := by omega
   rw [this, fwn _ (by omega)]
  have a31 : andI .i64 (c : Int) 31 = ((c % 32 : Nat) : Int) := by have := andI64 (c : Int) 5 (by decide); exact this
  have a15 : andI .i64 (c : Int) 15 = ((c % 16 : Nat) : Int) := by have := andI64 (c : Int) 4 (by decide); exact this
  have a7 : andI .i64 (c : Int) 7 = ((c % 8 : Nat) : Int) := by have := andI64 (c : Int) 3 (by decide); exact this
  simp only [e0, e1, nthS_at hc, Option.bind_some, jn, e2, hc, dec, fwn c (by omega), a31, a15, a7]
  have step : ∀ (n q : Nat), 2 ≤ n → n ≤ 4 → q < 64 ^ 1 → leadN c = (n, q) →
   (if decide (((r.length + 1 : Nat) : Int) < (n : Int)) then some ((-1 : Int), (1 : Int)) else g72_l9 k s (i : Int) ((q : Int), (n : Int), ((leastN n : Nat) : Int)) k (q : Int) 1) = some (fitN n (moreN (n - 1) q r)) := by
   intro n q hn hn4 hq hlead
   by_cases h1 : r.length + 1 < n
   ·rw [if_pos (by simp only [decide_eq_true_eq]; omega), moreN_none _ _ _ (by omega)]
    rfl
   ·rw [if_neg (by simp only [decide_eq_true_eq]; omega)]
    have w := rnext_l k s hs hl i n q hn4 (by omega) (n - 1) (k - n) 1 q (by omega) (by decide) hq
    rw [show n - 1 + 1 + (k - n) = k from by omega, hr] at w
    exact w
  by_cases c1 : c < 128
  ·have : leadN c = (1, c) := by unfold leadN; rw [if_pos c1]
   have hcp : cpN c = true := by unfold cpN; simp; omega
   rw [this, decide_eq_true (show (c : Int) < 128 by omega)]
   simp [moreN, fitN, leastN, hcp]
  ·rw [decide_eq_false (show ¬ (c : Int) < 128 by omega)]
   simp only [Bool.false_eq_true, if_false]
   by_cases c2 : 192 ≤ c ∧ c < 224
   ·have hL : leadN c = (2, c % 32) := by unfold leadN; rw [if_neg c1, if_pos (by omega)]
    rw [decide_eq_true (show (192 : Int) ≤ (c : Int) by omega), decide_eq_true (show (c : Int) < 224 by omega), hL]
    exact step 2 (c % 32) (by decide) (by decide) (by omega) hL
   ·have n1 : ¬ c / 32 = 6 := by omega
    by_cases c3 : 224 ≤ c ∧ c < 240
    ·have hL : leadN c = (3, c % 16) := by unfold leadN; rw [if_neg c1, if_neg n1, if_pos (by omega)]
     rw [decide_eq_true (show (192 : Int) ≤ (c : Int) by omega), decide_eq_false (show ¬ (c : Int) < 224 by omega), decide_eq_true (show (224 : Int) ≤ (c : Int) by omega), decide_eq_true (show (c : Int) < 240 by omega), hL]
     exact step 3 (c % 16) (by decide) (by decide) (by omega) hL
    ·have n2 : ¬ c / 16 = 14 := by omega
     by_cases c4 : 240 ≤ c ∧ c < 248
     ·have hL : leadN c = (4, c % 8) := by unfold leadN; rw [if_neg c1, if_neg n1, if_neg n2, if_pos (by omega)]
      rw [decide_eq_true (show (192 : Int) ≤ (c : Int) by omega), decide_eq_false (show ¬ (c : Int) < 224 by omega), decide_eq_true (show (224 : Int) ≤ (c : Int) by omega), decide_eq_false (show ¬ (c : Int) < 240 by omega), decide_eq_true (show (240 : Int) ≤ (c : Int) by omega), decide_eq_true (show (c : Int) < 248 by omega), hL]
      exact step 4 (c % 8) (by decide) (by decide) (by omega) hL
     ·have n3 : ¬ c / 8 = 30 := by omega
      have hL : leadN c = (0, 0) := by unfold leadN; rw [if_neg c1, if_neg n1, if_neg n2, if_neg n3]
      rw [hL]
      by_cases d1 : 192 ≤ c
      ·rw [decide_eq_true (show (192 : Int) ≤ (c : Int) by omega), decide_eq_false (show ¬ (c : Int) < 224 by omega), decide_eq_true (show (224 : Int) ≤ (c : Int) by omega), decide_eq_false (show ¬ (c : Int) < 240 by omega), decide_eq_true (show (240 : Int) ≤ (c : Int) by omega), decide_eq_false (show ¬ (c : Int) < 248 by omega)]
       rfl
      ·rw [decide_eq_false (show ¬ (192 : Int) ≤ (c : Int) by omega), decide_eq_false (show ¬ (224 : Int) ≤ (c : Int) by omega), decide_eq_false (show ¬ (240 : Int) ≤ (c : Int) by omega)]
       rfl
 ·have e1 : decide ((s.length : Int) ≤ (i : Int)) = true := by simp; omega
  rw [e0, e1, List.drop_eq_nil_of_le (by omega)]
  rfl
theorem dec_size {s : List Nat} (h : s ≠ []) : ∃ n : Nat, (dec s).2 = (n : Int) ∧ 1 ≤ n ∧ n ≤ 4 ∧ n ≤ s.length ∧ ((dec s).1 < 0 → n = 1) := by
 cases s with
 | nil => exact absurd rfl h
 | cons c r =>
  have hd : dec (c :: r) = if (leadN c).1 = 0 then (-1, 1) else fitN (leadN c).1 (moreN ((leadN c).1 - 1) (leadN c).2 r) := rfl
  rw [hd]
  by_cases h0 : (leadN c).1 = 0
  ·rw [if_pos h0]
   exact ⟨1, rfl, by decide, by decide, by simp, fun _ => rfl⟩
  ·rw [if_neg h0]
   cases hm : moreN ((leadN c).1 - 1) (leadN c).2 r with
   | none => exact ⟨1, rfl, by decide, by decide, by simp, fun _ => rfl⟩
   | some y =>
    unfold fitN
    simp only []
    split
    ·have := lead_le c
     refine ⟨(leadN c).1, rfl, by omega, this, ?_, ?_⟩
     ·rcases Nat.lt_or_ge r.length ((leadN c).1 - 1) with hlt | hge
      ·rw [moreN_none _ _ _ hlt] at hm; cases hm
      ·simp; omega
     ·intro hneg
      simp at hneg
      omega
    ·exact ⟨1, rfl, by decide, by decide, by simp, fun _ => rfl⟩
end Go.Proofs.Ytabhkocokojddaa.Am
set_option maxRecDepth 100000
set_option linter.unusedVariables false
namespace Go.Proofs.Ytabhkocokojddaa.Am
noncomputable section
open Go
def X94 : Fx (List Nat) := ⟨Try.prog, cx, Try.f94, fun r => .str r, 0, fun _ => H0, cxTi, cxOrd⟩
def g94p0 : Pt := nav [0] (bodyAt Try.f94)
def g94p1 : Pt := nav [0, 0, 0, 0] g94p0
def g94p2 : Pt := nav [0, 0] g94p1
def g94p4 : Pt := nav [2, 0, 0] g94p2
def g94p6 : Pt := nav [0, 0, 0, 0, 0] g94p4
def g94p7 : Pt := nav [0, 0, 0] g94p6
def g94p8 : Pt := nav [0, 0] g94p7
def g94p10 : Pt := nav [2, 0, 0, 0] g94p8
def g94p11 : Pt := nav [0, 0] g94p10
def g94p12 : Pt := nav [1, 0] g94p11
def g94p13 : Pt := nav [2, 0, 0] g94p11
def g94p14 : Pt := nav [0, 0, 0, 0] g94p13
def g94p15 : Pt := nav [0, 0, 0, 0] g94p14
def g94p16 : Pt := nav [0, 0, 0] g94p15
def g94p17 : Pt := nav [0, 0] g94p16
def g94p18 : Pt := nav [1, 0, 0, 0, 0] g94p17
def g94p19 : Pt := nav [2, 0, 0] g94p17
def g94p20 : Pt := nav [0, 0] g94p18
def g94p21 : Pt := nav [0, 0, 0] g94p19
def g94_l9 (k : Nat)  (z8 : Int × Bool) (n : Nat) : Int → Int → (List Int) → Option (List Nat) :=
 Nat.rec (motive := fun _ => Int → Int → (List Int) → Option (List Nat)) (fun _ _ _ => none) (fun _ ih => fun (y9_0 : Int) (y9_1 : Int) (y9_2 : (List Int)) => if (decide (0 < y9_1)) then ((idxO y9_2 y9_1).bind fun x4_6 => (setO y9_2 x4_6 (orI .u8 (andI .u8 (fW .u8 y9_0) 63) 128)).bind fun x4_7 => ih (shrC y9_0 6) (fW .i64 (y9_1 - 1)) x4_7) else ((shlS .u8 255 (fW .i64 (8 - z8.1))).bind fun x5_5 => (idxO y9_2 0).bind fun x5_7 => (setO y9_2 x5_7 (orI .u8 (fW .u8 y9_0) x5_5)).bind fun x5_8 => (toS x5_8).bind fun x6_1 => some x6_1)) n
theorem g94_l9_s (k : Nat)  (z8 : Int × Bool) (n : Nat) (y9_0 : Int) (y9_1 : Int) (y9_2 : (List Int)) : g94_l9 k z8 (n + 1) y9_0 y9_1 y9_2 = (if (decide (0 < y9_1)) then ((idxO y9_2 y9_1).bind fun x4_6 => (setO y9_2 x4_6 (orI .u8 (andI .u8 (fW .u8 y9_0) 63) 128)).bind fun x4_7 => (g94_l9 k z8 n) (shrC y9_0 6) (fW .i64 (y9_1 - 1)) x4_7) else ((shlS .u8 255 (fW .i64 (8 - z8.1))).bind fun x5_5 => (idxO y9_2 0).bind fun x5_7 => (setO y9_2 x5_7 (orI .u8 (fW .u8 y9_0) x5_5)).bind fun x5_8 => (toS x5_8).bind fun x6_1 => some x6_1)) := rfl
theorem g94_l9_ok (k : Nat)  (z8 : Int × Bool)  : ∀ (n : Nat) (y9_0 : Int) (y9_1 : Int) (y9_2 : (List Int)), Ok X94 g94p15 [(0, .int .i64 y9_0), (3, .int .i64 z8.1), (4, .own 0 (y9_2).length 1), (5, .int .i64 y9_1)] (mkH [⟨(y9_2).flatMap e5, (y9_2).length * 1, false⟩]) (g94_l9 k z8 n y9_0 y9_1 y9_2)
 | 0, _, _, _ => ok_none
 | n + 1, y9_0, y9_1, y9_2 => by
  have ih := g94_l9_ok k z8 n
  rw [g94_l9_s]
  refine ok_ent (p' := nav [0] g94p15) (by kernel_rfl) ?_
  let E8 : Env := [(31, .bool (decide (0 < y9_1))), (30, .int .i64 y9_1), (0, .int .i64 y9_0), (3, .int .i64 z8.1), (4, .own 0 (y9_2).length 1), (5, .int .i64 y9_1)]
  refine oR 6 (p' := g94p17) (eE := E8) (H' := (mkH [⟨(y9_2).flatMap e5, (y9_2).length * 1, false⟩])) (by kernel_rfl) ?_
  refine oS 31 (b := decide (0 < y9_1)) (by kernel_rfl) (fun hb => ?_) (fun hb => ?_)
  ·let E9 : Env := ((39, .int .u8 (orI .u8 (andI .u8 (fW .u8 y9_0) 63) 128)) :: (38, .int .u8 (andI .u8 (fW .u8 y9_0) 63)) :: (37, .int .u8 (fW .u8 y9_0)) :: (36, .int .i64 y9_0) :: (35, .int .i64 y9_1) :: (34, .own 0 (y9_2).length 1) :: (31, .bool true) :: E8)
   refine oR 12 (p' := (atN 6 (ctl1 g94p18))) (eE := E9) (H' := (mkH [⟨(y9_2).flatMap e5, (y9_2).length * 1, false⟩])) (by kernel_rfl) ?_
   refine oH (fun (x4_6 : Nat) => (.ptr 0 ((y9_2).length * 1) (x4_6 * 1), (mkH [⟨(y9_2).flatMap e5, (y9_2).length * 1, false⟩]))) (atN 7 (ctl1 g94p18)) (fun x4_6 => ((40, .ptr 0 ((y9_2).length * 1) (x4_6 * 1)) :: E9)) (oidxH (sz := 1) (by kernel_rfl)) (fun _ => by kernel_rfl) (fun x4_6 hx4_6 => ?_)
   refine oH (fun (x4_7 : (List Int)) => (.top, (mkH [⟨(x4_7).flatMap e5, (x4_7).length * 1, false⟩]))) (atN 8 (ctl1 g94p18)) (fun x4_7 => ((40, .ptr 0 ((y9_2).length * 1) (x4_6 * 1)) :: E9)) (storeH (v := v5) (fun _ => rfl) (fun _ => rfl) [⟨(y9_2).flatMap e5, (y9_2).length * 1, false⟩] 0 (orI .u8 (andI .u8 (fW .u8 y9_0) 63) 128) rfl rfl (by kernel_rfl)) (fun _ => by kernel_rfl) (fun x4_7 hx4_7 => ?_)
   refine oE (eE := [(40, .ptr 0 ((y9_2).length * 1) (x4_6 * 1)), (39, .int .u8 (orI .u8 (andI .u8 (fW .u8 y9_0) 63) 128)), (38, .int .u8 (andI .u8 (fW .u8 y9_0) 63)), (37, .int .u8 (fW .u8 y9_0)), (36, .int .i64 y9_0), (35, .int .i64 y9_1), (34, .own 0 (x4_7).length 1), (31, .bool true), (31, .bool (decide (0 < y9_1))), (30, .int .i64 y9_1), (0, .int .i64 y9_0), (3, .int .i64 z8.1), (4, .own 0 (x4_7).length 1), (5, .int .i64 y9_1)]) (by rw [setO_len hx4_7]) ?_
   let E10 : Env := [(40, .ptr 0 ((y9_2).length * 1) (x4_6 * 1)), (39, .int .u8 (orI .u8 (andI .u8 (fW .u8 y9_0) 63) 128)), (38, .int .u8 (andI .u8 (fW .u8 y9_0) 63)), (37, .int .u8 (fW .u8 y9_0)), (36, .int .i64 y9_0), (35, .int .i64 y9_1), (34, .own 0 (x4_7).length 1), (31, .bool true), (31, .bool (decide (0 < y9_1))), (30, .int .i64 y9_1), (0, .int .i64 y9_0), (3, .int .i64 z8.1), (4, .own 0 (x4_7).length 1), (5, .int .i64 y9_1)]
   refine oR 1 (p' := g94p20) (eE := E10) (H' := (mkH [⟨(x4_7).flatMap e5, (x4_7).length * 1, false⟩])) (by kernel_rfl) ?_
   refine oK [0, 3, 4, 5] (eE := [(0, .int .i64 y9_0), (3, .int .i64 z8.1), (4, .own 0 (x4_7).length 1), (5, .int .i64 y9_1)]) (by kernel_rfl) ?_
   let E11 : Env := [(5, .int .i64 (fW .i64 (y9_1 - 1))), (33, .int .i64 (fW .i64 (y9_1 - 1))), (32, .int .i64 y9_1), (0, .int .i64 (shrC y9_0 6)), (42, .int .i64 (shrC y9_0 6)), (41, .int .i64 y9_0), (0, .int .i64 y9_0), (3, .int .i64 z8.1), (4, .own 0 (x4_7).length 1), (5, .int .i64 y9_1)]
   refine oR 10 (p' := g94p15) (eE := E11) (H' := (mkH [⟨(x4_7).flatMap e5, (x4_7).length * 1, false⟩])) (by kernel_rfl) ?_
   refine oK [0, 3, 4, 5] (eE := [(0, .int .i64 (shrC y9_0 6)), (3, .int .i64 z8.1), (4, .own 0 (x4_7).length 1), (5, .int .i64 (fW .i64 (y9_1 - 1)))]) (by kernel_rfl) ?_
   exact ih (shrC y9_0 6) (fW .i64 (y9_1 - 1)) x4_7
  ·let E12 : Env := ((47, .int .i64 (fW .i64 (8 - z8.1))) :: (46, .int .i64 z8.1) :: (45, .int .u8 (fW .u8 y9_0)) :: (44, .int .i64 y9_0) :: (43, .own 0 (y9_2).length 1) :: (31, .bool false) :: E8)
   refine oR 9 (p' := (atN 5 (ctl1 g94p19))) (eE := E12) (H' := (mkH [⟨(y9_2).flatMap e5, (y9_2).length * 1, false⟩])) (by kernel_rfl) ?_
   refine oH (fun (x5_5 : Int) => (.int .u8 x5_5, (mkH [⟨(y9_2).flatMap e5, (y9_2).length * 1, false⟩]))) (atN 6 (ctl1 g94p19)) (fun x5_5 => ((48, .int .u8 x5_5) :: E12)) (shlH (by kernel_rfl)) (fun _ => by kernel_rfl) (fun x5_5 hx5_5 => ?_)
   refine oR 1 (p' := (atN 7 (ctl1 g94p19))) (eE := ((49, .int .u8 (orI .u8 (fW .u8 y9_0) x5_5)) :: (48, .int .u8 x5_5) :: E12)) (H' := (mkH [⟨(y9_2).flatMap e5, (y9_2).length * 1, false⟩])) (by kernel_rfl) ?_
   refine oH (fun (x5_7 : Nat) => (.ptr 0 ((y9_2).length * 1) (x5_7 * 1), (mkH [⟨(y9_2).flatMap e5, (y9_2).length * 1, false⟩]))) (atN 8 (ctl1 g94p19)) (fun x5_7 => ((50, .ptr 0 ((y9_2).length * 1) (x5_7 * 1)) :: (49, .int .u8 (orI .u8 (fW .u8 y9_0) x5_5)) :: (48, .int .u8 x5_5) :: E12)) (oidxH (sz := 1) (by kernel_rfl)) (fun _ => by kernel_rfl) (fun x5_7 hx5_7 => ?_)
   refine oH (fun (x5_8 : (List Int)) => (.top, (mkH [⟨(x5_8).flatMap e5, (x5_8).length * 1, false⟩]))) (atN 9 (ctl1 g94p19)) (fun x5_8 => ((50, .ptr 0 ((y9_2).length * 1) (x5_7 * 1)) :: (49, .int .u8 (orI .u8 (fW .u8 y9_0) x5_5)) :: (48, .int .u8 x5_5) :: E12)) (storeH (v := v5) (fun _ => rfl) (fun _ => rfl) [⟨(y9_2).flatMap e5, (y9_2).length * 1, false⟩] 0 (orI .u8 (fW .u8 y9_0) x5_5) rfl rfl (by kernel_rfl)) (fun _ => by kernel_rfl) (fun x5_8 hx5_8 => ?_)
   refine oE (eE := [(50, .ptr 0 ((y9_2).length * 1) (x5_7 * 1)), (49, .int .u8 (orI .u8 (fW .u8 y9_0) x5_5)), (48, .int .u8 x5_5), (47, .int .i64 (fW .i64 (8 - z8.1))), (46, .int .i64 z8.1), (45, .int .u8 (fW .u8 y9_0)), (44, .int .i64 y9_0), (43, .own 0 (x5_8).length 1), (31, .bool false), (31, .bool (decide (0 < y9_1))), (30, .int .i64 y9_1), (0, .int .i64 y9_0), (3, .int .i64 z8.1), (4, .own 0 (x5_8).length 1), (5, .int .i64 y9_1)]) (by rw [setO_len hx5_8]) ?_
   let E13 : Env := [(50, .ptr 0 ((y9_2).length * 1) (x5_7 * 1)), (49, .int .u8 (orI .u8 (fW .u8 y9_0) x5_5)), (48, .int .u8 x5_5), (47, .int .i64 (fW .i64 (8 - z8.1))), (46, .int .i64 z8.1), (45, .int .u8 (fW .u8 y9_0)), (44, .int .i64 y9_0), (43, .own 0 (x5_8).length 1), (31, .bool false), (31, .bool (decide (0 < y9_1))), (30, .int .i64 y9_1), (0, .int .i64 y9_0), (3, .int .i64 z8.1), (4, .own 0 (x5_8).length 1), (5, .int .i64 y9_1)]
   refine oR 2 (p' := g94p21) (eE := E13) (H' := (mkH [⟨(x5_8).flatMap e5, (x5_8).length * 1, false⟩])) (by kernel_rfl) ?_
   refine oK [4] (eE := [(4, .own 0 (x5_8).length 1)]) (by kernel_rfl) ?_
   refine oR 2 (p' := (atN 1 (ctl1 g94p21))) (eE := [(51, .own 0 (x5_8).length 1), (4, .own 0 (x5_8).length 1)]) (H' := (mkH [⟨(x5_8).flatMap e5, (x5_8).length * 1, false⟩])) (by kernel_rfl) ?_
   refine oH (fun (x6_1 : (List Nat)) => (.str x6_1, (mkH [⟨(x5_8).flatMap e5, (x5_8).length * 1, false⟩]))) (atN 2 (ctl1 g94p21)) (fun x6_1 => [(52, .str x6_1), (51, .own 0 (x5_8).length 1), (4, .own 0 (x5_8).length 1)]) (toSO (fun _ => rfl) [⟨(x5_8).flatMap e5, (x5_8).length * 1, false⟩] 0 (x5_8.length * 1) rfl rfl (Nat.le_refl _) (by kernel_rfl)) (fun _ => by kernel_rfl) (fun x6_1 hx6_1 => ?_)
   refine oR 3 (p' := .fin) (eE := [(2, .str x6_1), (52, .str x6_1), (51, .own 0 (x5_8).length 1), (4, .own 0 (x5_8).length 1)]) (H' := (mkH [⟨(x5_8).flatMap e5, (x5_8).length * 1, false⟩])) (by kernel_rfl) ?_
   exact oT (r := x6_1) (xs := [.str x6_1]) (v := .str x6_1) (by kernel_rfl) (by kernel_rfl) (by kernel_rfl) (.pures (by kernel_rfl)) (by kernel_rfl)
def g94_l7 (k : Nat)  (a0 : Int) (n : Nat) : Int → Option (List Nat) :=
 Nat.rec (motive := fun _ => Int → Option (List Nat)) (fun _ => none) (fun _ ih => fun (y7_0 : Int) => jn (fun (z8 : Int × Bool) => if z8.2 then (ih (fW .i64 (z8.1 + 1))) else (if (decide (z8.1 = 1)) then ((toS ([fW .u8 a0] : List Int)).bind fun x2_3 => some x2_3) else ((mkS (0 : Int) 1 z8.1).bind fun x3_1 => g94_l9 k z8 k a0 (fW .i64 (z8.1 - 1)) x3_1))) (fun j8 => if (decide (y7_0 < 4)) then ((g92 k (fW .i64 (y7_0 + 1))).bind fun x1_6 => j8 (y7_0, decide (x1_6 ≤ a0))) else (j8 (y7_0, false)))) n
theorem g94_l7_s (k : Nat)  (a0 : Int) (n : Nat) (y7_0 : Int) : g94_l7 k a0 (n + 1) y7_0 = (jn (fun (z8 : Int × Bool) => if z8.2 then ((g94_l7 k a0 n) (fW .i64 (z8.1 + 1))) else (if (decide (z8.1 = 1)) then ((toS ([fW .u8 a0] : List Int)).bind fun x2_3 => some x2_3) else ((mkS (0 : Int) 1 z8.1).bind fun x3_1 => g94_l9 k z8 k a0 (fW .i64 (z8.1 - 1)) x3_1))) (fun j8 => if (decide (y7_0 < 4)) then ((g92 k (fW .i64 (y7_0 + 1))).bind fun x1_6 => j8 (y7_0, decide (x1_6 ≤ a0))) else (j8 (y7_0, false)))) := rfl
theorem g94_l7_ok (k : Nat)  (a0 : Int)  : ∀ (n : Nat) (y7_0 : Int), Ok X94 g94p6 [(0, .int .i64 a0), (3, .int .i64 y7_0)] (mkH []) (g94_l7 k a0 n y7_0)
 | 0, _ => ok_none
 | n + 1, y7_0 => by
  have ih := g94_l7_ok k a0 n
  rw [g94_l7_s]
  refine ok_ent (p' := nav [0] g94p6) (by kernel_rfl) ?_
  let E2 : Env := [(11, .bool (decide (y7_0 < 4))), (10, .bool (decide (y7_0 < 4))), (9, .int .i64 y7_0), (0, .int .i64 a0), (3, .int .i64 y7_0)]
  refine oR 6 (p' := (atN 3 (ctl1 g94p7))) (eE := E2) (H' := (mkH [])) (by kernel_rfl) ?_
  refine oJ (f := fun (z8 : Int × Bool) => if z8.2 then ((g94_l7 k a0 n) (fW .i64 (z8.1 + 1))) else (if (decide (z8.1 = 1)) then ((toS ([fW .u8 a0] : List Int)).bind fun x2_3 => some x2_3) else ((mkS (0 : Int) 1 z8.1).bind fun x3_1 => g94_l9 k z8 k a0 (fW .i64 (z8.1 - 1)) x3_1))) g94p8 (fun (z8 : Int × Bool) => [(0, .int .i64 a0), (3, .int .i64 z8.1), (17, .bool z8.2)]) (fun (z8 : Int × Bool) => (mkH [])) (fun z8 => ?_) (fun j8 hj8 => ?_)
  ·refine oS 17 (b := z8.2) (by kernel_rfl) (fun hb => ?_) (fun hb => ?_)
   ·let E3 : Env := [(3, .int .i64 (fW .i64 (z8.1 + 1))), (19, .int .i64 (fW .i64 (z8.1 + 1))), (18, .int .i64 z8.1), (17, .bool true), (0, .int .i64 a0), (3, .int .i64 z8.1), (17, .bool z8.2)]
    refine oR 8 (p' := g94p6) (eE := E3) (H' := (mkH [])) (by kernel_rfl) ?_
    refine oK [0, 3] (eE := [(0, .int .i64 a0), (3, .int .i64 (fW .i64 (z8.1 + 1)))]) (by kernel_rfl) ?_
    exact ih (fW .i64 (z8.1 + 1))
   ·let E4 : Env := [(21, .bool (decide (z8.1 = 1))), (20, .int .i64 z8.1), (17, .bool false), (0, .int .i64 a0), (3, .int .i64 z8.1), (17, .bool z8.2)]
    refine oR 8 (p' := g94p11) (eE := E4) (H' := (mkH [])) (by kernel_rfl) ?_
    refine oS 21 (b := decide (z8.1 = 1)) (by kernel_rfl) (fun hb => ?_) (fun hb => ?_)
    ·refine oR 6 (p' := (atN 3 (ctl1 g94p12))) (eE := ((24, .slice 0 1 0 1 1) :: (23, .int .u8 (fW .u8 a0)) :: (22, .int .i64 a0) :: (21, .bool true) :: E4)) (H' := (mkH [⟨[.int .u8 (fW .u8 a0)], 0, false⟩])) (by kernel_rfl) ?_
     refine oH (fun (x2_3 : (List Nat)) => (.str x2_3, (mkH [⟨[.int .u8 (fW .u8 a0)], 0, false⟩]))) (atN 4 (ctl1 g94p12)) (fun x2_3 => ((25, .str x2_3) :: (24, .slice 0 1 0 1 1) :: (23, .int .u8 (fW .u8 a0)) :: (22, .int .i64 a0) :: (21, .bool true) :: E4)) (toSE [fW .u8 a0] (by kernel_rfl)) (fun _ => by kernel_rfl) (fun x2_3 hx2_3 => ?_)
     let E5 : Env := ((2, .str x2_3) :: (25, .str x2_3) :: (24, .slice 0 1 0 1 1) :: (23, .int .u8 (fW .u8 a0)) :: (22, .int .i64 a0) :: (21, .bool true) :: E4)
     refine oR 3 (p' := .fin) (eE := E5) (H' := (mkH [⟨[.int .u8 (fW .u8 a0)], 0, false⟩])) (by kernel_rfl) ?_
     exact oT (r := x2_3) (xs := [.str x2_3]) (v := .str x2_3) (by kernel_rfl) (by kernel_rfl) (by kernel_rfl) (.pures (by kernel_rfl)) (by kernel_rfl)
    ·refine oR 5 (p' := (atN 1 (ctl1 g94p13))) (eE := ((26, .int .i64 z8.1) :: (21, .bool false) :: E4)) (H' := (mkH [])) (by kernel_rfl) ?_
     refine oH (fun (x3_1 : (List Int)) => (.slice 0 ((x3_1).flatMap e5).length 0 (x3_1).length 1, (mkH [⟨(x3_1).flatMap e5, 0, false⟩]))) (atN 2 (ctl1 g94p13)) (fun x3_1 => ((27, .slice 0 ((x3_1).flatMap e5).length 0 (x3_1).length 1) :: (26, .int .i64 z8.1) :: (21, .bool false) :: E4)) (makeH (sz := 1) e5_len rfl (0 : Int) [] 1 rfl (by kernel_rfl)) (fun _ => by kernel_rfl) (fun x3_1 hx3_1 => ?_)
     refine ok_sown 27 0 ((x3_1).flatMap e5).length (x3_1).length 1 (by kernel_rfl) (flatMap_len e5_len _) ?_
     refine oE (eE := [(27, .own 0 (x3_1).length 1), (27, .slice 0 ((x3_1).flatMap e5).length 0 (x3_1).length 1), (26, .int .i64 z8.1), (21, .bool false), (21, .bool (decide (z8.1 = 1))), (20, .int .i64 z8.1), (17, .bool false), (0, .int .i64 a0), (3, .int .i64 z8.1), (17, .bool z8.2)]) (by kernel_rfl) ?_
     refine ok_minv [⟨(x3_1).flatMap e5, 0, false⟩] 0 ((x3_1).flatMap e5) 0 ((x3_1).length * 1) rfl rfl (Nat.zero_le _) ?_
     refine ok_heap (H' := (mkH [⟨(x3_1).flatMap e5, (x3_1).length * 1, false⟩])) (by kernel_rfl) ?_
     let E6 : Env := ((4, .own 0 (x3_1).length 1) :: (27, .own 0 (x3_1).length 1) :: (27, .slice 0 ((x3_1).flatMap e5).length 0 (x3_1).length 1) :: (26, .int .i64 z8.1) :: (21, .bool false) :: E4)
     refine oR 4 (p' := g94p14) (eE := E6) (H' := (mkH [⟨(x3_1).flatMap e5, (x3_1).length * 1, false⟩])) (by kernel_rfl) ?_
     refine oK [0, 3, 4] (eE := [(0, .int .i64 a0), (3, .int .i64 z8.1), (4, .own 0 (x3_1).length 1)]) (by kernel_rfl) ?_
     let E7 : Env := [(5, .int .i64 (fW .i64 (z8.1 - 1))), (29, .int .i64 (fW .i64 (z8.1 - 1))), (28, .int .i64 z8.1), (0, .int .i64 a0), (3, .int .i64 z8.1), (4, .own 0 (x3_1).length 1)]
     refine oR 7 (p' := g94p15) (eE := E7) (H' := (mkH [⟨(x3_1).flatMap e5, (x3_1).length * 1, false⟩])) (by kernel_rfl) ?_
     refine oK [0, 3, 4, 5] (eE := [(0, .int .i64 a0), (3, .int .i64 z8.1), (4, .own 0 (x3_1).length 1), (5, .int .i64 (fW .i64 (z8.1 - 1)))]) (by kernel_rfl) ?_
     exact (g94_l9_ok k z8 k) a0 (fW .i64 (z8.1 - 1)) x3_1
  ·refine oS 11 (b := decide (y7_0 < 4)) (by kernel_rfl) (fun hb => ?_) (fun hb => ?_)
   ·refine oR 3 (p' := (atN 6 (ctl1 g94p7))) (eE := ((14, .int .i64 (fW .i64 (y7_0 + 1))) :: (13, .int .i64 y7_0) :: (12, .int .i64 a0) :: (11, .bool true) :: E2)) (H' := (mkH [])) (by kernel_rfl) ?_
    refine oC (fun (x1_6 : Int) => .int .i64 x1_6) (atN 7 (ctl1 g94p7)) (fun x1_6 => ((15, .int .i64 x1_6) :: (14, .int .i64 (fW .i64 (y7_0 + 1))) :: (13, .int .i64 y7_0) :: (12, .int .i64 a0) :: (11, .bool true) :: E2)) (fi := 92) (args := [.int .i64 (fW .i64 (y7_0 + 1))]) (by kernel_rfl) (by kernel_rfl) (fun _ => by kernel_rfl) (fun r h => g92_ok k (fW .i64 (y7_0 + 1)) r h) (fun _ => by kernel_rfl) (fun x1_6 hx1_6 => ?_)
    let E14 : Env := ((17, .bool (decide (x1_6 ≤ a0))) :: (16, .bool (decide (x1_6 ≤ a0))) :: (15, .int .i64 x1_6) :: (14, .int .i64 (fW .i64 (y7_0 + 1))) :: (13, .int .i64 y7_0) :: (12, .int .i64 a0) :: (11, .bool true) :: E2)
    refine oR 3 (p' := g94p8) (eE := E14) (H' := (mkH [])) (by kernel_rfl) ?_
    refine oK [0, 3, 17] (eE := [(0, .int .i64 a0), (3, .int .i64 y7_0), (17, .bool (decide (x1_6 ≤ a0)))]) (by kernel_rfl) ?_
    exact hj8 (y7_0, decide (x1_6 ≤ a0))
   ·let E15 : Env := ((17, .bool false) :: (16, .tuple []) :: (15, .tuple []) :: (14, .tuple []) :: (13, .tuple []) :: (12, .tuple []) :: (11, .bool false) :: E2)
    refine oR 7 (p' := g94p8) (eE := E15) (H' := (mkH [])) (by kernel_rfl) ?_
    refine oK [0, 3, 17] (eE := [(0, .int .i64 a0), (3, .int .i64 y7_0), (17, .bool false)]) (by kernel_rfl) ?_
    exact hj8 (y7_0, false)
def g94 (k : Nat) (a0 : Int) : Option (List Nat) :=
 (g93 k a0).bind fun x0_1 => if (!x0_1) then (some ([] : List Nat)) else (g94_l7 k a0 k 1)
theorem g94_ok (k : Nat) (a0 : Int) (r : (List Nat)) (h : g94 k a0 = some r) : PureOk Try.prog 94 [.int .i64 a0] (.str r) := by
 refine pure_of X94 (fun _ => rfl) Try.func94 (by decide +kernel) (by kernel_rfl) (t := g94 k a0) ?_ h
 unfold g94
 refine oE (eE := [(0, .int .i64 a0)]) (by kernel_rfl) ?_
 refine oR 8 (p' := (atN 1 (ctl1 g94p1))) (eE := [(6, .int .i64 a0), (2, .str []), (0, .int .i64 a0)]) (H' := (mkH [])) (by kernel_rfl) ?_
 refine oC (fun (x0_1 : Bool) => .bool x0_1) (atN 2 (ctl1 g94p1)) (fun x0_1 => [(7, .bool x0_1), (6, .int .i64 a0), (2, .str []), (0, .int .i64 a0)]) (fi := 93) (args := [.int .i64 a0]) (by kernel_rfl) (by kernel_rfl) (fun _ => by kernel_rfl) (fun r h => g93_ok k a0 r h) (fun _ => by kernel_rfl) (fun x0_1 hx0_1 => ?_)
 let E1 : Env := [(8, .bool (!x0_1)), (7, .bool x0_1), (6, .int .i64 a0), (2, .str []), (0, .int .i64 a0)]
 refine oR 2 (p' := g94p2) (eE := E1) (H' := (mkH [])) (by kernel_rfl) ?_
 refine oS 8 (b := !x0_1) (by kernel_rfl) (fun hb => ?_) (fun hb => ?_)
 ·refine oR 6 (p' := .fin) (eE := ((2, .str []) :: (8, .bool true) :: E1)) (H' := (mkH [])) (by kernel_rfl) ?_
  exact oT (r := ([] : List Nat)) (xs := [.str []]) (v := .str []) (by kernel_rfl) (by kernel_rfl) (by kernel_rfl) (.pures (by kernel_rfl)) (by kernel_rfl)
 ·refine oR 9 (p' := g94p6) (eE := ((3, .int .i64 1) :: (8, .bool false) :: E1)) (H' := (mkH [])) (by kernel_rfl) ?_
  refine oK [0, 3] (eE := [(0, .int .i64 a0), (3, .int .i64 1)]) (by kernel_rfl) ?_
  exact (g94_l7_ok k a0 k) 1
end
end Go.Proofs.Ytabhkocokojddaa.Am
set_option maxRecDepth 100000
set_option linter.unusedVariables false
set_option linter.unusedSimpArgs false
namespace Go.Proofs.Ytabhkocokojddaa.Am
open Go
theorem fwu8 (x : Nat) : fW .u8 (x : Int) = ((x % 256 : Nat) : Int) := by
 rw [fwrap_eq]; simp [IntKind.wrap, IntKind.bits, IntKind.signed]
theorem toS_nat : ∀ l : List Nat, (∀ b ∈ l, b < 256) → toS (l.map fun (b : Nat) => (b : Int)) = some l
 | [], _ => rfl
 | b :: l, h => by
  have hb := h b (by simp)
  simp only [List.map_cons, toS, toS_nat l (fun x hx => h x (by simp [hx]))]
  rw [if_pos (by omega)]
  simp
def orOk (b : Nat) : Bool := decide (orI .u8 (b : Int) 128 = ((128 + b : Nat) : Int)) && decide (orI .u8 128 (b : Int) = ((128 + b : Nat) : Int)) && (decide (32 ≤ b) || decide (orI .u8 (b : Int) 192 = ((192 + b : Nat) : Int)) && decide (orI .u8 192 (b : Int) = ((192 + b : Nat) : Int))) && (decide (16 ≤ b) || decide (orI .u8 (b : Int) 224 = ((224 + b : Nat) : Int)) && decide (orI .u8 224 (b : Int) = ((224 + b : Nat) : Int))) && (decide (8 ≤ b) || decide (orI .u8 (b : Int) 240 = ((240 + b : Nat) : Int)) && decide (orI .u8 240 (b : Int) = ((240 + b : Nat) : Int)))
theorem orOk_all : ((List.range 64).all orOk) = true := by decide +kernel
theorem or_ok {b : Nat} (h : b < 64) : orOk b = true := List.all_eq_true.1 orOk_all b (List.mem_range.2 h)
theorem or128 {b : Nat} (h : b < 64) : orI .u8 (b : Int) 128 = ((128 + b : Nat) : Int) ∧ orI .u8 128 (b : Int) = ((128 + b : Nat) : Int) := by
 have w := or_ok h
 simp only [orOk, Bool.and_eq_true, decide_eq_true_eq] at w
 exact ⟨w.1.1.1.1, w.1.1.1.2⟩
theorem or192 {b : Nat} (h : b < 32) : orI .u8 (b : Int) 192 = ((192 + b : Nat) : Int) ∧ orI .u8 192 (b : Int) = ((192 + b : Nat) : Int) := by
 have w := or_ok (b := b) (by omega)
 simp only [orOk, Bool.and_eq_true, Bool.or_eq_true, decide_eq_true_eq] at w
 rcases w.1.1.2 with h | h
 ·omega
 ·exact h
theorem or224 {b : Nat} (h : b < 16) : orI .u8 (b : Int) 224 = ((224 + b : Nat) : Int) ∧ orI .u8 224 (b : Int) = ((224 + b : Nat) : Int) := by
 have w := or_ok (b := b) (by omega)
 simp only [orOk, Bool.and_eq_true, Bool.or_eq_true, decide_eq_true_eq] at w
 rcases w.1.2 with h | h
 ·omega
 ·exact h
theorem or240 {b : Nat} (h : b < 8) : orI .u8 (b : Int) 240 = ((240 + b : Nat) : Int) ∧ orI .u8 240 (b : Int) = ((240 + b : Nat) : Int) := by
 have w := or_ok (b := b) (by omega)
 simp only [orOk, Bool.and_eq_true, Bool.or_eq_true, decide_eq_true_eq] at w
 rcases w.2 with h | h
 ·omega
 ·exact h
def enc (c : Nat) : List Nat := if c < 128 then [c] else if c < 2048 then [192 + c / 64, 128 + c % 64] else if c < 65536 then [224 + c / 4096, 128 + c / 64 % 64, 128 + c % 64] else [240 + c / 262144, 128 + c / 4096 % 64, 128 + c / 64 % 64, 128 + c % 64]
def put (n : Int) : List Nat := if 0 ≤ n ∧ cpN n.toNat = true then enc n.toNat else []
theorem put_neg {n : Int} (h : n < 0) : put n = [] := by
 unfold put; exact if_neg (fun w => by omega)
theorem put_cp {c : Nat} (h : cpN c = true) : put (c : Int) = enc c := by
 unfold put; rw [Int.toNat_natCast]; exact if_pos ⟨by omega, h⟩
theorem put_no {c : Nat} (h : cpN c = false) : put (c : Int) = [] := by
 unfold put; rw [Int.toNat_natCast]; exact if_neg (fun w => by rw [h] at w; exact absurd w.2 (by decide))
theorem cp_neg {k : Nat} {n : Int} (h : n < 0) : g93 k n = some false ∧ g82 k n = some false := by
 unfold g93 g82
 rw [decide_eq_false (show ¬ (0 : Int) ≤ n by omega)]
 exact ⟨rfl, rfl⟩
theorem cp_le {c : Nat} (h : cpN c = true) : c ≤ 1114111 := by
 unfold cpN at h
 simp at h
 exact h.1
theorem put_b (c : Nat) : orI .u8 (andI .u8 (fW .u8 (c : Int)) 63) 128 = ((128 + c % 64 : Nat) : Int) := by
 rw [fwu8, (byte_ok (b := c % 256) (by omega)).1, (or128 (by omega)).1, show c % 256 % 64 = c % 64 from by omega]
theorem put_at {k : Nat} (hk : 6 ≤ k) (n : Int) : g94 k n = some (put n) := by
 obtain ⟨k, rfl⟩ : ∃ k', k = k' + 6 := ⟨k - 6, by omega⟩
 unfold g94
 by_cases hn : n < 0
 ·rw [put_neg hn, (cp_neg (k := k + 6) hn).1]; rfl
 ·obtain ⟨c, rfl⟩ : ∃ c : Nat, n = (c : Int) := ⟨n.toNat, by omega⟩
  rw [cp_at, Option.bind_some]
  by_cases hcp : cpN c = true
  ·have hle := cp_le hcp
   rw [put_cp hcp, hcp]
   simp only [Bool.not_true, Bool.false_eq_true, if_false]
   have l2 : g92 (k + 6) (fW .i64 (1 + 1)) = some 128 := by rfl
   have l3 : g92 (k + 6) (fW .i64 (2 + 1)) = some 2048 := by rfl
   have l4 : g92 (k + 6) (fW .i64 (3 + 1)) = some 65536 := by rfl
   have f2 : fW .i64 (1 + 1) = 2 := by rfl
   have f3 : fW .i64 (2 + 1) = 3 := by rfl
   have f4 : fW .i64 (3 + 1) = 4 := by rfl
   have m2 : g92 (k + 6) 2 = some 128 := by rfl
   have m3 : g92 (k + 6) 3 = some 2048 := by rfl
   have m4 : g92 (k + 6) 4 = some 65536 := by rfl
   unfold enc
   by_cases h1 : c < 128
   ·rw [if_pos h1, g94_l7_s, decide_eq_true (show (1 : Int) < 4 by decide)]
    simp only [l2, f2, m2, decide_true, Option.bind_some, jn, if_true, decide_eq_false (show ¬ (128 : Int) ≤ (c : Int) by omega), Bool.false_eq_true, if_false]
    rw [fwu8, Nat.mod_eq_of_lt (by omega)]
    have := toS_nat [c] (by intro b hb; simp at hb; omega)
    simp only [List.map_cons, List.map_nil] at this
    rw [this]; rfl
   ·rw [if_neg h1, g94_l7_s, decide_eq_true (show (1 : Int) < 4 by decide)]
    simp only [l2, f2, m2, decide_true, Option.bind_some, jn, if_true, decide_eq_true (show (128 : Int) ≤ (c : Int) by omega), f2]
    rw [g94_l7_s, decide_eq_true (show (2 : Int) < 4 by decide)]
    simp only [l3, f3, m3, decide_true, Option.bind_some, jn, if_true]
    by_cases h2 : c < 2048
    ·rw [if_pos h2, decide_eq_false (show ¬ (2048 : Int) ≤ (c : Int) by omega)]
     simp only [Bool.false_eq_true, if_false, decide_eq_false (show ¬ (2 : Int) = 1 by decide)]
     rw [show mkS (0 : Int) 1 2 = some [0, 0] from by decide, Option.bind_some, show fW .i64 ((2 : Int) - 1) = 1 from rfl, g94_l9_s, decide_eq_true (show (0 : Int) < 1 by decide), put_b, shrC_nat]
     simp only [if_true]
     rw [show (idxO ([0, 0] : List Int) 1) = some 1 from by decide, Option.bind_some]
     rw [show (setO ([0, 0] : List Int) 1 ((128 + c % 64 : Nat) : Int)) = some [0, ((128 + c % 64 : Nat) : Int)] from rfl, Option.bind_some, show fW .i64 ((1 : Int) - 1) = 0 from rfl, g94_l9_s, decide_eq_false (show ¬ (0 : Int) < 0 by decide)]
     simp only [Bool.false_eq_true, if_false]
     rw [show shlS .u8 255 (fW .i64 (8 - (2 : Int))) = some 192 from by decide, Option.bind_some, fwu8, show c / 2 ^ 6 % 256 = c / 64 from by omega, (or192 (by omega)).1]
     have := toS_nat [192 + c / 64, 128 + c % 64] (by intro b hb; simp at hb; omega)
     simp only [List.map_cons, List.map_nil] at this
     show (toS [((192 + c / 64 : Nat) : Int), ((128 + c % 64 : Nat) : Int)]).bind _ = _
     rw [this]; rfl
    ·rw [if_neg h2, decide_eq_true (show (2048 : Int) ≤ (c : Int) by omega)]
     simp only [if_true, f3]
     rw [g94_l7_s, decide_eq_true (show (3 : Int) < 4 by decide)]
     simp only [l4, f4, m4, decide_true, Option.bind_some, jn, if_true]
     by_cases h3 : c < 65536
     ·rw [if_pos h3, decide_eq_false (show ¬ (65536 : Int) ≤ (c : Int) by omega)]
      simp only [Bool.false_eq_true, if_false, decide_eq_false (show ¬ (3 : Int) = 1 by decide)]
      rw [show mkS (0 : Int) 1 3 = some [0, 0, 0] from by decide, Option.bind_some, show fW .i64 ((3 : Int) - 1) = 2 from rfl, g94_l9_s, decide_eq_true (show (0 : Int) < 2 by decide), put_b, shrC_nat]
      simp only [if_true]
      rw [show (idxO ([0, 0, 0] : List Int) 2) = some 2 from by decide, Option.bind_some]
      rw [show (setO ([0, 0, 0] : List Int) 2 ((128 + c % 64 : Nat) : Int)) = some [0, 0, ((128 + c % 64 : Nat) : Int)] from rfl, Option.bind_some, show fW .i64 ((2 : Int) - 1) = 1 from rfl, g94_l9_s, decide_eq_true (show (0 : Int) < 1 by decide), put_b, shrC_nat]
      simp only [if_true]
      rw [show (idxO ([0, 0, ((128 + c % 64 : Nat) : Int)] : List Int) 1) = some 1 from rfl, Option.bind_some]
      rw [show (setO ([0, 0, ((128 + c % 64 : Nat) : Int)] : List Int) 1 ((128 + c / 2 ^ 6 % 64 : Nat) : Int)) = some [0, ((128 + c / 2 ^ 6 % 64 : Nat) : Int), ((128 + c % 64 : Nat) : Int)] from rfl, Option.bind_some, show fW .i64 ((1 : Int) - 1) = 0 from rfl, g94_l9_s, decide_eq_false (show ¬ (0 : Int) < 0 by decide)]
      simp only [Bool.false_eq_true, if_false]
      rw [show shlS .u8 255 (fW .i64 (8 - (3 : Int))) = some 224 from by decide, Option.bind_some, fwu8, show c / 2 ^ 6 / 2 ^ 6 % 256 = c / 4096 from by omega, (or224 (by omega)).1]
      have := toS_nat [224 + c / 4096, 128 + c / 64 % 64, 128 + c % 64] (by intro b hb; simp at hb; omega)
      simp only [List.map_cons, List.map_nil] at this
      show (toS [((224 + c / 4096 : Nat) : Int), ((128 + c / 64 % 64 : Nat) : Int), ((128 + c % 64 : Nat) : Int)]).bind _ = _
      rw [this]; rfl
     ·rw [if_neg h3, decide_eq_true (show (65536 : Int) ≤ (c : Int) by omega)]
      simp only [if_true, f4]
      rw [g94_l7_s, decide_eq_false (show ¬ (4 : Int) < 4 by decide)]
      simp only [jn, Bool.false_eq_true, if_false, decide_eq_false (show ¬ (4 : Int) = 1 by decide)]
      rw [show mkS (0 : Int) 1 4 = some [0, 0, 0, 0] from by decide, Option.bind_some, show fW .i64 ((4 : Int) - 1) = 3 from rfl, g94_l9_s, decide_eq_true (show (0 : Int) < 3 by decide), put_b, shrC_nat]
      simp only [if_true]
      rw [show (idxO ([0, 0, 0, 0] : List Int) 3) = some 3 from by decide, Option.bind_some]
      rw [show (setO ([0, 0, 0, 0] : List Int) 3 ((128 + c % 64 : Nat) : Int)) = some [0, 0, 0, ((128 + c % 64 : Nat) : Int)] from rfl, Option.bind_some, show fW .i64 ((3 : Int) - 1) = 2 from rfl, g94_l9_s, decide_eq_true (show (0 : Int) < 2 by decide), put_b, shrC_nat]
      simp only [if_true]
      rw [show (idxO ([0, 0, 0, ((128 + c % 64 : Nat) : Int)] : List Int) 2) = some 2 from rfl, Option.bind_some]
      rw [show (setO ([0, 0, 0, ((128 + c % 64 : Nat) : Int)] : List Int) 2 ((128 + c / 2 ^ 6 % 64 : Nat) : Int)) = some [0, 0, ((128 + c / 2 ^ 6 % 64 : Nat) : Int), ((128 + c % 64 : Nat) : Int)] from rfl, Option.bind_some, show fW .i64 ((2 : Int) - 1) = 1 from rfl, g94_l9_s, decide_eq_true (show (0 : Int) < 1 by decide), put_b, shrC_nat]
      simp only [if_true]
      rw [show (idxO ([0, 0, ((128 + c / 2 ^ 6 % 64 : Nat) : Int), ((128 + c % 64 : Nat) : Int)] : List Int) 1) = some 1 from rfl, Option.bind_some]
      rw [show (setO ([0, 0, ((128 + c / 2 ^ 6 % 64 : Nat) : Int), ((128 + c % 64 : Nat) : Int)] : List Int) 1 ((128 + c / 2 ^ 6 / 2 ^ 6 % 64 : Nat) : Int)) = some [0, ((128 + c / 2 ^ 6 / 2 ^ 6 % 64 : Nat) : Int), ((128 + c / 2 ^ 6 % 64 : Nat) : Int), ((128 + c % 64 : Nat) : Int)] from rfl, Option.bind_some, show fW .i64 ((1 : Int) - 1) = 0 from rfl, g94_l9_s, decide_eq_false (show ¬ (0 : Int) < 0 by decide)]
      simp only [Bool.false_eq_true, if_false]
      rw [show shlS .u8 255 (fW .i64 (8 - (4 : Int))) = some 240 from by decide, Option.bind_some, fwu8, show c / 2 ^ 6 / 2 ^ 6 / 2 ^ 6 % 256 = c / 262144 from by omega, (or240 (by omega)).1]
      have := toS_nat [240 + c / 262144, 128 + c / 4096 % 64, 128 + c / 64 % 64, 128 + c % 64] (by intro b hb; simp at hb; omega)
      simp only [List.map_cons, List.map_nil] at this
      show (toS [((240 + c / 262144 : Nat) : Int), ((128 + c / 2 ^ 6 / 2 ^ 6 % 64 : Nat) : Int), ((128 + c / 64 % 64 : Nat) : Int), ((128 + c % 64 : Nat) : Int)]).bind _ = _
      rw [show c / 2 ^ 6 / 2 ^ 6 % 64 = c / 4096 % 64 from by omega, this]; rfl
  ·simp at hcp
   rw [put_no hcp, hcp]; rfl
end Go.Proofs.Ytabhkocokojddaa.Am
set_option maxRecDepth 100000
set_option linter.unusedVariables false
namespace Go.Proofs.Ytabhkocokojddaa.Am
noncomputable section
open Go
def X79 : Fx (Int × Int) := ⟨Try.prog, cx, Try.f79, fun r => .tuple [.int .i64 r.1, .int .i64 r.2], 0, fun _ => H0, cxTi, cxOrd⟩
def g79p0 : Pt := nav [0] (bodyAt Try.f79)
def g79p1 : Pt := nav [0, 0, 0] g79p0
def g79p2 : Pt := nav [0, 0, 0, 0] g79p1
def g79p3 : Pt := nav [0, 0] g79p2
def g79p5 : Pt := nav [2, 0, 0] g79p3
def g79p6 : Pt := nav [0, 0, 0, 0, 0] g79p5
def g79p7 : Pt := nav [0, 0, 0] g79p6
def g79p8 : Pt := nav [0, 0] g79p7
def g79p9 : Pt := nav [1, 0, 0, 0] g79p8
def g79p10 : Pt := nav [2, 0, 0] g79p8
def g79p11 : Pt := nav [0, 0] g79p9
def g79p12 : Pt := nav [0, 0, 0, 0] g79p10
def g79p13 : Pt := nav [0, 0] g79p12
def g79_l6 (k : Nat)  (a0 : (List Nat)) (a1 : Int) (z5 : Int × Int × Int) (n : Nat) : Int → Int → Option (Int × Int) :=
 Nat.rec (motive := fun _ => Int → Int → Option (Int × Int)) (fun _ _ => none) (fun _ ih => fun (y6_0 : Int) (y6_1 : Int) => jn (fun (z7 : Bool × Int × Int) => if z7.1 then ((nthS a0 (fW .i64 (z5.1 + z7.2.2))).bind fun x2_6 => (g75 k x2_6).bind fun x2_7 => ih (orI .i64 (shlC .i64 z7.2.1 4) x2_7) (fW .i64 (z7.2.2 + 1))) else (jn (fun (z8 : Int × Int × Bool) => if z8.2.2 then (some (((-1) : Int), (0 : Int))) else (some (z8.1, fW .i64 (fW .i64 (z8.2.1 + z5.2.2) - a1)))) (fun j8 => if (decide (z5.2.2 = 0)) then (if (decide (z7.2.2 < 2)) then (j8 (z7.2.1, fW .i64 (z5.1 + z7.2.2), true)) else (if (decide (z7.2.2 < 1)) then (j8 (z7.2.1, fW .i64 (z5.1 + z7.2.2), true)) else (if (decide (z5.2.2 = 1)) then (if (decide ((a0.length : Int) ≤ fW .i64 (z5.1 + z7.2.2))) then (j8 (z7.2.1, fW .i64 (z5.1 + z7.2.2), true)) else ((nthS a0 (fW .i64 (z5.1 + z7.2.2))).bind fun x3_21 => if (!decide (x3_21 = 125)) then (j8 (z7.2.1, fW .i64 (z5.1 + z7.2.2), true)) else ((g94 k z7.2.1).bind fun x3_28 => j8 (z7.2.1, fW .i64 (z5.1 + z7.2.2), eqL x3_28 [])))) else ((g94 k z7.2.1).bind fun x3_28 => j8 (z7.2.1, fW .i64 (z5.1 + z7.2.2), eqL x3_28 []))))) else (if (decide (z7.2.2 < 1)) then (j8 (z7.2.1, fW .i64 (z5.1 + z7.2.2), true)) else (if (decide (z5.2.2 = 1)) then (if (decide ((a0.length : Int) ≤ fW .i64 (z5.1 + z7.2.2))) then (j8 (z7.2.1, fW .i64 (z5.1 + z7.2.2), true)) else ((nthS a0 (fW .i64 (z5.1 + z7.2.2))).bind fun x3_21 => if (!decide (x3_21 = 125)) then (j8 (z7.2.1, fW .i64 (z5.1 + z7.2.2), true)) else ((g94 k z7.2.1).bind fun x3_28 => j8 (z7.2.1, fW .i64 (z5.1 + z7.2.2), eqL x3_28 [])))) else ((g94 k z7.2.1).bind fun x3_28 => j8 (z7.2.1, fW .i64 (z5.1 + z7.2.2), eqL x3_28 []))))))) (fun j7 => if (decide (y6_1 < z5.2.1)) then (if (decide (fW .i64 (z5.1 + y6_1) < (a0.length : Int))) then ((nthS a0 (fW .i64 (z5.1 + y6_1))).bind fun x1_16 => (g75 k x1_16).bind fun x1_17 => j7 (decide (x1_17 < 16), y6_0, y6_1)) else (j7 (false, y6_0, y6_1))) else (j7 (false, y6_0, y6_1)))) n
theorem g79_l6_s (k : Nat)  (a0 : (List Nat)) (a1 : Int) (z5 : Int × Int × Int) (n : Nat) (y6_0 : Int) (y6_1 : Int) : g79_l6 k a0 a1 z5 (n + 1) y6_0 y6_1 = (jn (fun (z7 : Bool × Int × Int) => if z7.1 then ((nthS a0 (fW .i64 (z5.1 + z7.2.2))).bind fun x2_6 => (g75 k x2_6).bind fun x2_7 => (g79_l6 k a0 a1 z5 n) (orI .i64 (shlC .i64 z7.2.1 4) x2_7) (fW .i64 (z7.2.2 + 1))) else (jn (fun (z8 : Int × Int × Bool) => if z8.2.2 then (some (((-1) : Int), (0 : Int))) else (some (z8.1, fW .i64 (fW .i64 (z8.2.1 + z5.2.2) - a1)))) (fun j8 => if (decide (z5.2.2 = 0)) then (if (decide (z7.2.2 < 2)) then (j8 (z7.2.1, fW .i64 (z5.1 + z7.2.2), true)) else (if (decide (z7.2.2 < 1)) then (j8 (z7.2.1, fW .i64 (z5.1 + z7.2.2), true)) else (if (decide (z5.2.2 = 1)) then (if (decide ((a0.length : Int) ≤ fW .i64 (z5.1 + z7.2.2))) then (j8 (z7.2.1, fW .i64 (z5.1 + z7.2.2), true)) else ((nthS a0 (fW .i64 (z5.1 + z7.2.2))).bind fun x3_21 => if (!decide (x3_21 = 125)) then (j8 (z7.2.1, fW .i64 (z5.1 + z7.2.2), true)) else ((g94 k z7.2.1).bind fun x3_28 => j8 (z7.2.1, fW .i64 (z5.1 + z7.2.2), eqL x3_28 [])))) else ((g94 k z7.2.1).bind fun x3_28 => j8 (z7.2.1, fW .i64 (z5.1 + z7.2.2), eqL x3_28 []))))) else (if (decide (z7.2.2 < 1)) then (j8 (z7.2.1, fW .i64 (z5.1 + z7.2.2), true)) else (if (decide (z5.2.2 = 1)) then (if (decide ((a0.length : Int) ≤ fW .i64 (z5.1 + z7.2.2))) then (j8 (z7.2.1, fW .i64 (z5.1 + z7.2.2), true)) else ((nthS a0 (fW .i64 (z5.1 + z7.2.2))).bind fun x3_21 => if (!decide (x3_21 = 125)) then (j8 (z7.2.1, fW .i64 (z5.1 + z7.2.2), true)) else ((g94 k z7.2.1).bind fun x3_28 => j8 (z7.2.1, fW .i64 (z5.1 + z7.2.2), eqL x3_28 [])))) else ((g94 k z7.2.1).bind fun x3_28 => j8 (z7.2.1, fW .i64 (z5.1 + z7.2.2), eqL x3_28 []))))))) (fun j7 => if (decide (y6_1 < z5.2.1)) then (if (decide (fW .i64 (z5.1 + y6_1) < (a0.length : Int))) then ((nthS a0 (fW .i64 (z5.1 + y6_1))).bind fun x1_16 => (g75 k x1_16).bind fun x1_17 => j7 (decide (x1_17 < 16), y6_0, y6_1)) else (j7 (false, y6_0, y6_1))) else (j7 (false, y6_0, y6_1)))) := rfl
theorem g79_l6_ok (k : Nat)  (a0 : (List Nat)) (a1 : Int) (z5 : Int × Int × Int)  : ∀ (n : Nat) (y6_0 : Int) (y6_1 : Int), Ok X79 g79p6 [(0, .str a0), (1, .int .i64 a1), (6, .int .i64 z5.1), (7, .int .i64 z5.2.1), (8, .int .i64 z5.2.2), (9, .int .i64 y6_0), (10, .int .i64 y6_1)] (mkH []) (g79_l6 k a0 a1 z5 n y6_0 y6_1)
 | 0, _, _ => ok_none
 | n + 1, y6_0, y6_1 => by
  have ih := g79_l6_ok k a0 a1 z5 n
  rw [g79_l6_s]
  refine ok_ent (p' := nav [0] g79p6) (by kernel_rfl) ?_
  let E3 : Env := [(29, .bool (decide (y6_1 < z5.2.1))), (28, .bool (decide (y6_1 < z5.2.1))), (27, .int .i64 z5.2.1), (26, .int .i64 y6_1), (0, .str a0), (1, .int .i64 a1), (6, .int .i64 z5.1), (7, .int .i64 z5.2.1), (8, .int .i64 z5.2.2), (9, .int .i64 y6_0), (10, .int .i64 y6_1)]
  refine oR 7 (p' := (atN 4 (ctl1 g79p7))) (eE := E3) (H' := (mkH [])) (by kernel_rfl) ?_
  refine oJ (f := fun (z7 : Bool × Int × Int) => if z7.1 then ((nthS a0 (fW .i64 (z5.1 + z7.2.2))).bind fun x2_6 => (g75 k x2_6).bind fun x2_7 => (g79_l6 k a0 a1 z5 n) (orI .i64 (shlC .i64 z7.2.1 4) x2_7) (fW .i64 (z7.2.2 + 1))) else (jn (fun (z8 : Int × Int × Bool) => if z8.2.2 then (some (((-1) : Int), (0 : Int))) else (some (z8.1, fW .i64 (fW .i64 (z8.2.1 + z5.2.2) - a1)))) (fun j8 => if (decide (z5.2.2 = 0)) then (if (decide (z7.2.2 < 2)) then (j8 (z7.2.1, fW .i64 (z5.1 + z7.2.2), true)) else (if (decide (z7.2.2 < 1)) then (j8 (z7.2.1, fW .i64 (z5.1 + z7.2.2), true)) else (if (decide (z5.2.2 = 1)) then (if (decide ((a0.length : Int) ≤ fW .i64 (z5.1 + z7.2.2))) then (j8 (z7.2.1, fW .i64 (z5.1 + z7.2.2), true)) else ((nthS a0 (fW .i64 (z5.1 + z7.2.2))).bind fun x3_21 => if (!decide (x3_21 = 125)) then (j8 (z7.2.1, fW .i64 (z5.1 + z7.2.2), true)) else ((g94 k z7.2.1).bind fun x3_28 => j8 (z7.2.1, fW .i64 (z5.1 + z7.2.2), eqL x3_28 [])))) else ((g94 k z7.2.1).bind fun x3_28 => j8 (z7.2.1, fW .i64 (z5.1 + z7.2.2), eqL x3_28 []))))) else (if (decide (z7.2.2 < 1)) then (j8 (z7.2.1, fW .i64 (z5.1 + z7.2.2), true)) else (if (decide (z5.2.2 = 1)) then (if (decide ((a0.length : Int) ≤ fW .i64 (z5.1 + z7.2.2))) then (j8 (z7.2.1, fW .i64 (z5.1 + z7.2.2), true)) else ((nthS a0 (fW .i64 (z5.1 + z7.2.2))).bind fun x3_21 => if (!decide (x3_21 = 125)) then (j8 (z7.2.1, fW .i64 (z5.1 + z7.2.2), true)) else ((g94 k z7.2.1).bind fun x3_28 => j8 (z7.2.1, fW .i64 (z5.1 + z7.2.2), eqL x3_28 [])))) else ((g94 k z7.2.1).bind fun x3_28 => j8 (z7.2.1, fW .i64 (z5.1 + z7.2.2), eqL x3_28 []))))))) g79p8 (fun (z7 : Bool × Int × Int) => [(0, .str a0), (1, .int .i64 a1), (6, .int .i64 z5.1), (7, .int .i64 z5.2.1), (8, .int .i64 z5.2.2), (9, .int .i64 z7.2.1), (10, .int .i64 z7.2.2), (45, .bool z7.1)]) (fun (z7 : Bool × Int × Int) => (mkH [])) (fun z7 => ?_) (fun j7 hj7 => ?_)
  ·refine oS 45 (b := z7.1) (by kernel_rfl) (fun hb => ?_) (fun hb => ?_)
   ·let E4 : Env := [(51, .int .i64 (fW .i64 (z5.1 + z7.2.2))), (50, .int .i64 z7.2.2), (49, .int .i64 z5.1), (48, .str a0), (47, .int .i64 (shlC .i64 z7.2.1 4)), (46, .int .i64 z7.2.1), (45, .bool true), (0, .str a0), (1, .int .i64 a1), (6, .int .i64 z5.1), (7, .int .i64 z5.2.1), (8, .int .i64 z5.2.2), (9, .int .i64 z7.2.1), (10, .int .i64 z7.2.2), (45, .bool z7.1)]
    refine oR 11 (p' := (atN 6 (ctl1 g79p9))) (eE := E4) (H' := (mkH [])) (by kernel_rfl) ?_
    refine oH (fun (x2_6 : Int) => (.int .u8 x2_6, (mkH []))) (atN 7 (ctl1 g79p9)) (fun x2_6 => ((52, .int .u8 x2_6) :: E4)) (idxH (by kernel_rfl)) (fun _ => by kernel_rfl) (fun x2_6 hx2_6 => ?_)
    refine oC (fun (x2_7 : Int) => .int .i64 x2_7) (atN 8 (ctl1 g79p9)) (fun x2_7 => ((53, .int .i64 x2_7) :: (52, .int .u8 x2_6) :: E4)) (fi := 75) (args := [.int .u8 x2_6]) (by kernel_rfl) (by kernel_rfl) (fun _ => by kernel_rfl) (fun r h => g75_ok k x2_6 r h) (fun _ => by kernel_rfl) (fun x2_7 hx2_7 => ?_)
    refine oR 3 (p' := g79p11) (eE := ((9, .int .i64 (orI .i64 (shlC .i64 z7.2.1 4) x2_7)) :: (54, .int .i64 (orI .i64 (shlC .i64 z7.2.1 4) x2_7)) :: (53, .int .i64 x2_7) :: (52, .int .u8 x2_6) :: E4)) (H' := (mkH [])) (by kernel_rfl) ?_
    refine oK [0, 1, 6, 7, 8, 9, 10] (eE := [(0, .str a0), (1, .int .i64 a1), (6, .int .i64 z5.1), (7, .int .i64 z5.2.1), (8, .int .i64 z5.2.2), (9, .int .i64 (orI .i64 (shlC .i64 z7.2.1 4) x2_7)), (10, .int .i64 z7.2.2)]) (by kernel_rfl) ?_
    let E5 : Env := [(10, .int .i64 (fW .i64 (z7.2.2 + 1))), (56, .int .i64 (fW .i64 (z7.2.2 + 1))), (55, .int .i64 z7.2.2), (0, .str a0), (1, .int .i64 a1), (6, .int .i64 z5.1), (7, .int .i64 z5.2.1), (8, .int .i64 z5.2.2), (9, .int .i64 (orI .i64 (shlC .i64 z7.2.1 4) x2_7)), (10, .int .i64 z7.2.2)]
    refine oR 5 (p' := g79p6) (eE := E5) (H' := (mkH [])) (by kernel_rfl) ?_
    refine oK [0, 1, 6, 7, 8, 9, 10] (eE := [(0, .str a0), (1, .int .i64 a1), (6, .int .i64 z5.1), (7, .int .i64 z5.2.1), (8, .int .i64 z5.2.2), (9, .int .i64 (orI .i64 (shlC .i64 z7.2.1 4) x2_7)), (10, .int .i64 (fW .i64 (z7.2.2 + 1)))]) (by kernel_rfl) ?_
    exact ih (orI .i64 (shlC .i64 z7.2.1 4) x2_7) (fW .i64 (z7.2.2 + 1))
   ·let E6 : Env := [(11, .int .i64 (fW .i64 (z5.1 + z7.2.2))), (59, .int .i64 (fW .i64 (z5.1 + z7.2.2))), (58, .int .i64 z7.2.2), (57, .int .i64 z5.1), (45, .bool false), (0, .str a0), (1, .int .i64 a1), (6, .int .i64 z5.1), (7, .int .i64 z5.2.1), (8, .int .i64 z5.2.2), (9, .int .i64 z7.2.1), (10, .int .i64 z7.2.2), (45, .bool z7.1)]
    refine oR 11 (p' := g79p12) (eE := E6) (H' := (mkH [])) (by kernel_rfl) ?_
    refine oK [0, 1, 8, 9, 10, 11] (eE := [(0, .str a0), (1, .int .i64 a1), (8, .int .i64 z5.2.2), (9, .int .i64 z7.2.1), (10, .int .i64 z7.2.2), (11, .int .i64 (fW .i64 (z5.1 + z7.2.2)))]) (by kernel_rfl) ?_
    let E7 : Env := [(62, .bool (decide (z5.2.2 = 0))), (61, .bool (decide (z5.2.2 = 0))), (60, .int .i64 z5.2.2), (0, .str a0), (1, .int .i64 a1), (8, .int .i64 z5.2.2), (9, .int .i64 z7.2.1), (10, .int .i64 z7.2.2), (11, .int .i64 (fW .i64 (z5.1 + z7.2.2)))]
    refine oR 4 (p' := (atN 3 (ctl1 g79p12))) (eE := E7) (H' := (mkH [])) (by kernel_rfl) ?_
    refine oJ (f := fun (z8 : Int × Int × Bool) => if z8.2.2 then (some (((-1) : Int), (0 : Int))) else (some (z8.1, fW .i64 (fW .i64 (z8.2.1 + z5.2.2) - a1)))) g79p13 (fun (z8 : Int × Int × Bool) => [(1, .int .i64 a1), (8, .int .i64 z5.2.2), (9, .int .i64 z8.1), (11, .int .i64 z8.2.1), (90, .bool z8.2.2)]) (fun (z8 : Int × Int × Bool) => (mkH [])) (fun z8 => ?_) (fun j8 hj8 => ?_)
    ·refine oS 90 (b := z8.2.2) (by kernel_rfl) (fun hb => ?_) (fun hb => ?_)
     ·let E8 : Env := [(5, .int .i64 0), (4, .int .i64 (-1)), (90, .bool true), (1, .int .i64 a1), (8, .int .i64 z5.2.2), (9, .int .i64 z8.1), (11, .int .i64 z8.2.1), (90, .bool z8.2.2)]
      refine oR 7 (p' := .fin) (eE := E8) (H' := (mkH [])) (by kernel_rfl) ?_
      exact oT (r := (((-1) : Int), (0 : Int))) (xs := [.int .i64 (-1), .int .i64 0]) (v := .tuple [.int .i64 (-1), .int .i64 0]) (by kernel_rfl) (by kernel_rfl) (by kernel_rfl) (.pures (by kernel_rfl)) (by kernel_rfl)
     ·let E9 : Env := [(5, .int .i64 (fW .i64 (fW .i64 (z8.2.1 + z5.2.2) - a1))), (4, .int .i64 z8.1), (96, .int .i64 (fW .i64 (fW .i64 (z8.2.1 + z5.2.2) - a1))), (95, .int .i64 a1), (94, .int .i64 (fW .i64 (z8.2.1 + z5.2.2))), (93, .int .i64 z5.2.2), (92, .int .i64 z8.2.1), (91, .int .i64 z8.1), (90, .bool false), (1, .int .i64 a1), (8, .int .i64 z5.2.2), (9, .int .i64 z8.1), (11, .int .i64 z8.2.1), (90, .bool z8.2.2)]
      refine oR 14 (p' := .fin) (eE := E9) (H' := (mkH [])) (by kernel_rfl) ?_
      exact oT (r := (z8.1, fW .i64 (fW .i64 (z8.2.1 + z5.2.2) - a1))) (xs := [.int .i64 z8.1, .int .i64 (fW .i64 (fW .i64 (z8.2.1 + z5.2.2) - a1))]) (v := .tuple [.int .i64 z8.1, .int .i64 (fW .i64 (fW .i64 (z8.2.1 + z5.2.2) - a1))]) (by kernel_rfl) (by kernel_rfl) (by kernel_rfl) (.pures (by kernel_rfl)) (by kernel_rfl)
    ·refine oS 62 (b := decide (z5.2.2 = 0)) (by kernel_rfl) (fun hb => ?_) (fun hb => ?_)
     ·let E10 : Env := ((66, .bool (decide (z7.2.2 < 2))) :: (65, .bool (decide (z7.2.2 < 2))) :: (64, .bool (decide (z7.2.2 < 2))) :: (63, .int .i64 z7.2.2) :: (62, .bool true) :: E7)
      refine oR 4 (p' := (atN 7 (ctl1 g79p12))) (eE := E10) (H' := (mkH [])) (by kernel_rfl) ?_
      refine oS 66 (b := decide (z7.2.2 < 2)) (by kernel_rfl) (fun hb => ?_) (fun hb => ?_)
      ·let E11 : Env := ((90, .bool true) :: (89, .tuple []) :: (88, .tuple []) :: (87, .tuple []) :: (86, .bool true) :: (85, .bool true) :: (84, .tuple []) :: (83, .tuple []) :: (82, .tuple []) :: (81, .tuple []) :: (80, .tuple []) :: (79, .tuple []) :: (78, .tuple []) :: (77, .tuple []) :: (76, .tuple []) :: (75, .tuple []) :: (74, .tuple []) :: (73, .tuple []) :: (72, .tuple []) :: (71, .tuple []) :: (70, .bool true) :: (69, .bool true) :: (68, .tuple []) :: (67, .tuple []) :: (66, .bool true) :: E10)
       refine oR 25 (p' := g79p13) (eE := E11) (H' := (mkH [])) (by kernel_rfl) ?_
       refine oK [1, 8, 9, 11, 90] (eE := [(1, .int .i64 a1), (8, .int .i64 z5.2.2), (9, .int .i64 z7.2.1), (11, .int .i64 (fW .i64 (z5.1 + z7.2.2))), (90, .bool true)]) (by kernel_rfl) ?_
       exact hj8 (z7.2.1, fW .i64 (z5.1 + z7.2.2), true)
      ·let E12 : Env := ((70, .bool (decide (z7.2.2 < 1))) :: (69, .bool (decide (z7.2.2 < 1))) :: (68, .bool (decide (z7.2.2 < 1))) :: (67, .int .i64 z7.2.2) :: (66, .bool false) :: E10)
       refine oR 4 (p' := (atN 11 (ctl1 g79p12))) (eE := E12) (H' := (mkH [])) (by kernel_rfl) ?_
       refine oS 70 (b := decide (z7.2.2 < 1)) (by kernel_rfl) (fun hb => ?_) (fun hb => ?_)
       ·let E13 : Env := ((90, .bool true) :: (89, .tuple []) :: (88, .tuple []) :: (87, .tuple []) :: (86, .bool true) :: (85, .bool true) :: (84, .tuple []) :: (83, .tuple []) :: (82, .tuple []) :: (81, .tuple []) :: (80, .tuple []) :: (79, .tuple []) :: (78, .tuple []) :: (77, .tuple []) :: (76, .tuple []) :: (75, .tuple []) :: (74, .tuple []) :: (73, .tuple []) :: (72, .tuple []) :: (71, .tuple []) :: (70, .bool true) :: E12)
        refine oR 21 (p' := g79p13) (eE := E13) (H' := (mkH [])) (by kernel_rfl) ?_
        refine oK [1, 8, 9, 11, 90] (eE := [(1, .int .i64 a1), (8, .int .i64 z5.2.2), (9, .int .i64 z7.2.1), (11, .int .i64 (fW .i64 (z5.1 + z7.2.2))), (90, .bool true)]) (by kernel_rfl) ?_
        exact hj8 (z7.2.1, fW .i64 (z5.1 + z7.2.2), true)
       ·refine oR 3 (p' := (atN 14 (ctl1 g79p12))) (eE := ((73, .bool (decide (z5.2.2 = 1))) :: (72, .bool (decide (z5.2.2 = 1))) :: (71, .int .i64 z5.2.2) :: (70, .bool false) :: E12)) (H' := (mkH [])) (by kernel_rfl) ?_
        refine oS 73 (b := decide (z5.2.2 = 1)) (by kernel_rfl) (fun hb => ?_) (fun hb => ?_)
        ·let E14 : Env := ((78, .bool (decide ((a0.length : Int) ≤ fW .i64 (z5.1 + z7.2.2)))) :: (77, .bool (decide ((a0.length : Int) ≤ fW .i64 (z5.1 + z7.2.2)))) :: (76, .int .i64 (a0.length : Int)) :: (75, .str a0) :: (74, .int .i64 (fW .i64 (z5.1 + z7.2.2))) :: (73, .bool true) :: (73, .bool (decide (z5.2.2 = 1))) :: (72, .bool (decide (z5.2.2 = 1))) :: (71, .int .i64 z5.2.2) :: (70, .bool false) :: E12)
         refine oR 5 (p' := (atN 19 (ctl1 g79p12))) (eE := E14) (H' := (mkH [])) (by kernel_rfl) ?_
         refine oS 78 (b := decide ((a0.length : Int) ≤ fW .i64 (z5.1 + z7.2.2))) (by kernel_rfl) (fun hb => ?_) (fun hb => ?_)
         ·let E15 : Env := ((90, .bool true) :: (89, .tuple []) :: (88, .tuple []) :: (87, .tuple []) :: (86, .bool true) :: (85, .bool true) :: (84, .bool true) :: (83, .bool true) :: (82, .tuple []) :: (81, .tuple []) :: (80, .tuple []) :: (79, .tuple []) :: (78, .bool true) :: E14)
          refine oR 13 (p' := g79p13) (eE := E15) (H' := (mkH [])) (by kernel_rfl) ?_
          refine oK [1, 8, 9, 11, 90] (eE := [(1, .int .i64 a1), (8, .int .i64 z5.2.2), (9, .int .i64 z7.2.1), (11, .int .i64 (fW .i64 (z5.1 + z7.2.2))), (90, .bool true)]) (by kernel_rfl) ?_
          exact hj8 (z7.2.1, fW .i64 (z5.1 + z7.2.2), true)
         ·refine oR 2 (p' := (atN 21 (ctl1 g79p12))) (eE := ((80, .int .i64 (fW .i64 (z5.1 + z7.2.2))) :: (79, .str a0) :: (78, .bool false) :: E14)) (H' := (mkH [])) (by kernel_rfl) ?_
          refine oH (fun (x3_21 : Int) => (.int .u8 x3_21, (mkH []))) (atN 22 (ctl1 g79p12)) (fun x3_21 => ((81, .int .u8 x3_21) :: (80, .int .i64 (fW .i64 (z5.1 + z7.2.2))) :: (79, .str a0) :: (78, .bool false) :: E14)) (idxH (by kernel_rfl)) (fun _ => by kernel_rfl) (fun x3_21 hx3_21 => ?_)
          let E16 : Env := ((86, .bool (!decide (x3_21 = 125))) :: (85, .bool (!decide (x3_21 = 125))) :: (84, .bool (!decide (x3_21 = 125))) :: (83, .bool (!decide (x3_21 = 125))) :: (82, .bool (!decide (x3_21 = 125))) :: (81, .int .u8 x3_21) :: (80, .int .i64 (fW .i64 (z5.1 + z7.2.2))) :: (79, .str a0) :: (78, .bool false) :: E14)
          refine oR 5 (p' := (atN 27 (ctl1 g79p12))) (eE := E16) (H' := (mkH [])) (by kernel_rfl) ?_
          refine oS 86 (b := !decide (x3_21 = 125)) (by kernel_rfl) (fun hb => ?_) (fun hb => ?_)
          ·let E17 : Env := ((90, .bool true) :: (89, .tuple []) :: (88, .tuple []) :: (87, .tuple []) :: (86, .bool true) :: E16)
           refine oR 5 (p' := g79p13) (eE := E17) (H' := (mkH [])) (by kernel_rfl) ?_
           refine oK [1, 8, 9, 11, 90] (eE := [(1, .int .i64 a1), (8, .int .i64 z5.2.2), (9, .int .i64 z7.2.1), (11, .int .i64 (fW .i64 (z5.1 + z7.2.2))), (90, .bool true)]) (by kernel_rfl) ?_
           exact hj8 (z7.2.1, fW .i64 (z5.1 + z7.2.2), true)
          ·refine oR 1 (p' := (atN 28 (ctl1 g79p12))) (eE := ((87, .int .i64 z7.2.1) :: (86, .bool false) :: E16)) (H' := (mkH [])) (by kernel_rfl) ?_
           refine oC (fun (x3_28 : (List Nat)) => .str x3_28) (atN 29 (ctl1 g79p12)) (fun x3_28 => ((88, .str x3_28) :: (87, .int .i64 z7.2.1) :: (86, .bool false) :: E16)) (fi := 94) (args := [.int .i64 z7.2.1]) (by kernel_rfl) (by kernel_rfl) (fun _ => by kernel_rfl) (fun r h => g94_ok k z7.2.1 r h) (fun _ => by kernel_rfl) (fun x3_28 hx3_28 => ?_)
           let E18 : Env := ((90, .bool (eqL x3_28 [])) :: (89, .bool (eqL x3_28 [])) :: (88, .str x3_28) :: (87, .int .i64 z7.2.1) :: (86, .bool false) :: E16)
           refine oR 3 (p' := g79p13) (eE := E18) (H' := (mkH [])) (by kernel_rfl) ?_
           refine oK [1, 8, 9, 11, 90] (eE := [(1, .int .i64 a1), (8, .int .i64 z5.2.2), (9, .int .i64 z7.2.1), (11, .int .i64 (fW .i64 (z5.1 + z7.2.2))), (90, .bool (eqL x3_28 []))]) (by kernel_rfl) ?_
           exact hj8 (z7.2.1, fW .i64 (z5.1 + z7.2.2), eqL x3_28 [])
        ·let E19 : Env := ((87, .int .i64 z7.2.1) :: (86, .bool false) :: (85, .bool false) :: (84, .bool false) :: (83, .tuple []) :: (82, .tuple []) :: (81, .tuple []) :: (80, .tuple []) :: (79, .tuple []) :: (78, .tuple []) :: (77, .tuple []) :: (76, .tuple []) :: (75, .tuple []) :: (74, .tuple []) :: (73, .bool false) :: (73, .bool (decide (z5.2.2 = 1))) :: (72, .bool (decide (z5.2.2 = 1))) :: (71, .int .i64 z5.2.2) :: (70, .bool false) :: E12)
         refine oR 14 (p' := (atN 28 (ctl1 g79p12))) (eE := E19) (H' := (mkH [])) (by kernel_rfl) ?_
         refine oC (fun (x3_28 : (List Nat)) => .str x3_28) (atN 29 (ctl1 g79p12)) (fun x3_28 => ((88, .str x3_28) :: E19)) (fi := 94) (args := [.int .i64 z7.2.1]) (by kernel_rfl) (by kernel_rfl) (fun _ => by kernel_rfl) (fun r h => g94_ok k z7.2.1 r h) (fun _ => by kernel_rfl) (fun x3_28 hx3_28 => ?_)
         refine oR 3 (p' := g79p13) (eE := ((90, .bool (eqL x3_28 [])) :: (89, .bool (eqL x3_28 [])) :: (88, .str x3_28) :: E19)) (H' := (mkH [])) (by kernel_rfl) ?_
         refine oK [1, 8, 9, 11, 90] (eE := [(1, .int .i64 a1), (8, .int .i64 z5.2.2), (9, .int .i64 z7.2.1), (11, .int .i64 (fW .i64 (z5.1 + z7.2.2))), (90, .bool (eqL x3_28 []))]) (by kernel_rfl) ?_
         exact hj8 (z7.2.1, fW .i64 (z5.1 + z7.2.2), eqL x3_28 [])
     ·let E20 : Env := ((70, .bool (decide (z7.2.2 < 1))) :: (69, .bool (decide (z7.2.2 < 1))) :: (68, .bool (decide (z7.2.2 < 1))) :: (67, .int .i64 z7.2.2) :: (66, .bool false) :: (65, .bool false) :: (64, .tuple []) :: (63, .tuple []) :: (62, .bool false) :: E7)
      refine oR 8 (p' := (atN 11 (ctl1 g79p12))) (eE := E20) (H' := (mkH [])) (by kernel_rfl) ?_
      refine oS 70 (b := decide (z7.2.2 < 1)) (by kernel_rfl) (fun hb => ?_) (fun hb => ?_)
      ·let E21 : Env := ((90, .bool true) :: (89, .tuple []) :: (88, .tuple []) :: (87, .tuple []) :: (86, .bool true) :: (85, .bool true) :: (84, .tuple []) :: (83, .tuple []) :: (82, .tuple []) :: (81, .tuple []) :: (80, .tuple []) :: (79, .tuple []) :: (78, .tuple []) :: (77, .tuple []) :: (76, .tuple []) :: (75, .tuple []) :: (74, .tuple []) :: (73, .tuple []) :: (72, .tuple []) :: (71, .tuple []) :: (70, .bool true) :: E20)
       refine oR 21 (p' := g79p13) (eE := E21) (H' := (mkH [])) (by kernel_rfl) ?_
       refine oK [1, 8, 9, 11, 90] (eE := [(1, .int .i64 a1), (8, .int .i64 z5.2.2), (9, .int .i64 z7.2.1), (11, .int .i64 (fW .i64 (z5.1 + z7.2.2))), (90, .bool true)]) (by kernel_rfl) ?_
       exact hj8 (z7.2.1, fW .i64 (z5.1 + z7.2.2), true)
      ·refine oR 3 (p' := (atN 14 (ctl1 g79p12))) (eE := ((73, .bool (decide (z5.2.2 = 1))) :: (72, .bool (decide (z5.2.2 = 1))) :: (71, .int .i64 z5.2.2) :: (70, .bool false) :: E20)) (H' := (mkH [])) (by kernel_rfl) ?_
       refine oS 73 (b := decide (z5.2.2 = 1)) (by kernel_rfl) (fun hb => ?_) (fun hb => ?_)
       ·let E22 : Env := ((78, .bool (decide ((a0.length : Int) ≤ fW .i64 (z5.1 + z7.2.2)))) :: (77, .bool (decide ((a0.length : Int) ≤ fW .i64 (z5.1 + z7.2.2)))) :: (76, .int .i64 (a0.length : Int)) :: (75, .str a0) :: (74, .int .i64 (fW .i64 (z5.1 + z7.2.2))) :: (73, .bool true) :: (73, .bool (decide (z5.2.2 = 1))) :: (72, .bool (decide (z5.2.2 = 1))) :: (71, .int .i64 z5.2.2) :: (70, .bool false) :: E20)
        refine oR 5 (p' := (atN 19 (ctl1 g79p12))) (eE := E22) (H' := (mkH [])) (by kernel_rfl) ?_
        refine oS 78 (b := decide ((a0.length : Int) ≤ fW .i64 (z5.1 + z7.2.2))) (by kernel_rfl) (fun hb => ?_) (fun hb => ?_)
        ·let E23 : Env := ((90, .bool true) :: (89, .tuple []) :: (88, .tuple []) :: (87, .tuple []) :: (86, .bool true) :: (85, .bool true) :: (84, .bool true) :: (83, .bool true) :: (82, .tuple []) :: (81, .tuple []) :: (80, .tuple []) :: (79, .tuple []) :: (78, .bool true) :: E22)
         refine oR 13 (p' := g79p13) (eE := E23) (H' := (mkH [])) (by kernel_rfl) ?_
         refine oK [1, 8, 9, 11, 90] (eE := [(1, .int .i64 a1), (8, .int .i64 z5.2.2), (9, .int .i64 z7.2.1), (11, .int .i64 (fW .i64 (z5.1 + z7.2.2))), (90, .bool true)]) (by kernel_rfl) ?_
         exact hj8 (z7.2.1, fW .i64 (z5.1 + z7.2.2), true)
        ·refine oR 2 (p' := (atN 21 (ctl1 g79p12))) (eE := ((80, .int .i64 (fW .i64 (z5.1 + z7.2.2))) :: (79, .str a0) :: (78, .bool false) :: E22)) (H' := (mkH [])) (by kernel_rfl) ?_
         refine oH (fun (x3_21 : Int) => (.int .u8 x3_21, (mkH []))) (atN 22 (ctl1 g79p12)) (fun x3_21 => ((81, .int .u8 x3_21) :: (80, .int .i64 (fW .i64 (z5.1 + z7.2.2))) :: (79, .str a0) :: (78, .bool false) :: E22)) (idxH (by kernel_rfl)) (fun _ => by kernel_rfl) (fun x3_21 hx3_21 => ?_)
         let E24 : Env := ((86, .bool (!decide (x3_21 = 125))) :: (85, .bool (!decide (x3_21 = 125))) :: (84, .bool (!decide (x3_21 = 125))) :: (83, .bool (!decide (x3_21 = 125))) :: (82, .bool (!decide (x3_21 = 125))) :: (81, .int .u8 x3_21) :: (80, .int .i64 (fW .i64 (z5.1 + z7.2.2))) :: (79, .str a0) :: (78, .bool false) :: E22)
         refine oR 5 (p' := (atN 27 (ctl1 g79p12))) (eE := E24) (H' := (mkH [])) (by kernel_rfl) ?_
         refine oS 86 (b := !decide (x3_21 = 125)) (by kernel_rfl) (fun hb => ?_) (fun hb => ?_)
         ·let E25 : Env := ((90, .bool true) :: (89, .tuple []) :: (88, .tuple []) :: (87, .tuple []) :: (86, .bool true) :: E24)
          refine oR 5 (p' := g79p13) (eE := E25) (H' := (mkH [])) (by kernel_rfl) ?_
          refine oK [1, 8, 9, 11, 90] (eE := [(1, .int .i64 a1), (8, .int .i64 z5.2.2), (9, .int .i64 z7.2.1), (11, .int .i64 (fW .i64 (z5.1 + z7.2.2))), (90, .bool true)]) (by kernel_rfl) ?_
          exact hj8 (z7.2.1, fW .i64 (z5.1 + z7.2.2), true)
         ·refine oR 1 (p' := (atN 28 (ctl1 g79p12))) (eE := ((87, .int .i64 z7.2.1) :: (86, .bool false) :: E24)) (H' := (mkH [])) (by kernel_rfl) ?_
          refine oC (fun (x3_28 : (List Nat)) => .str x3_28) (atN 29 (ctl1 g79p12)) (fun x3_28 => ((88, .str x3_28) :: (87, .int .i64 z7.2.1) :: (86, .bool false) :: E24)) (fi := 94) (args := [.int .i64 z7.2.1]) (by kernel_rfl) (by kernel_rfl) (fun _ => by kernel_rfl) (fun r h => g94_ok k z7.2.1 r h) (fun _ => by kernel_rfl) (fun x3_28 hx3_28 => ?_)
          let E26 : Env := ((90, .bool (eqL x3_28 [])) :: (89, .bool (eqL x3_28 [])) :: (88, .str x3_28) :: (87, .int .i64 z7.2.1) :: (86, .bool false) :: E24)
          refine oR 3 (p' := g79p13) (eE := E26) (H' := (mkH [])) (by kernel_rfl) ?_
          refine oK [1, 8, 9, 11, 90] (eE := [(1, .int .i64 a1), (8, .int .i64 z5.2.2), (9, .int .i64 z7.2.1), (11, .int .i64 (fW .i64 (z5.1 + z7.2.2))), (90, .bool (eqL x3_28 []))]) (by kernel_rfl) ?_
          exact hj8 (z7.2.1, fW .i64 (z5.1 + z7.2.2), eqL x3_28 [])
       ·let E27 : Env := ((87, .int .i64 z7.2.1) :: (86, .bool false) :: (85, .bool false) :: (84, .bool false) :: (83, .tuple []) :: (82, .tuple []) :: (81, .tuple []) :: (80, .tuple []) :: (79, .tuple []) :: (78, .tuple []) :: (77, .tuple []) :: (76, .tuple []) :: (75, .tuple []) :: (74, .tuple []) :: (73, .bool false) :: (73, .bool (decide (z5.2.2 = 1))) :: (72, .bool (decide (z5.2.2 = 1))) :: (71, .int .i64 z5.2.2) :: (70, .bool false) :: E20)
        refine oR 14 (p' := (atN 28 (ctl1 g79p12))) (eE := E27) (H' := (mkH [])) (by kernel_rfl) ?_
        refine oC (fun (x3_28 : (List Nat)) => .str x3_28) (atN 29 (ctl1 g79p12)) (fun x3_28 => ((88, .str x3_28) :: E27)) (fi := 94) (args := [.int .i64 z7.2.1]) (by kernel_rfl) (by kernel_rfl) (fun _ => by kernel_rfl) (fun r h => g94_ok k z7.2.1 r h) (fun _ => by kernel_rfl) (fun x3_28 hx3_28 => ?_)
        refine oR 3 (p' := g79p13) (eE := ((90, .bool (eqL x3_28 [])) :: (89, .bool (eqL x3_28 [])) :: (88, .str x3_28) :: E27)) (H' := (mkH [])) (by kernel_rfl) ?_
        refine oK [1, 8, 9, 11, 90] (eE := [(1, .int .i64 a1), (8, .int .i64 z5.2.2), (9, .int .i64 z7.2.1), (11, .int .i64 (fW .i64 (z5.1 + z7.2.2))), (90, .bool (eqL x3_28 []))]) (by kernel_rfl) ?_
        exact hj8 (z7.2.1, fW .i64 (z5.1 + z7.2.2), eqL x3_28 [])
  ·refine oS 29 (b := decide (y6_1 < z5.2.1)) (by kernel_rfl) (fun hb => ?_) (fun hb => ?_)
   ·let E28 : Env := ((37, .bool (decide (fW .i64 (z5.1 + y6_1) < (a0.length : Int)))) :: (36, .bool (decide (fW .i64 (z5.1 + y6_1) < (a0.length : Int)))) :: (35, .bool (decide (fW .i64 (z5.1 + y6_1) < (a0.length : Int)))) :: (34, .int .i64 (a0.length : Int)) :: (33, .str a0) :: (32, .int .i64 (fW .i64 (z5.1 + y6_1))) :: (31, .int .i64 y6_1) :: (30, .int .i64 z5.1) :: (29, .bool true) :: E3)
    refine oR 8 (p' := (atN 12 (ctl1 g79p7))) (eE := E28) (H' := (mkH [])) (by kernel_rfl) ?_
    refine oS 37 (b := decide (fW .i64 (z5.1 + y6_1) < (a0.length : Int))) (by kernel_rfl) (fun hb => ?_) (fun hb => ?_)
    ·let E29 : Env := ((41, .int .i64 (fW .i64 (z5.1 + y6_1))) :: (40, .int .i64 y6_1) :: (39, .int .i64 z5.1) :: (38, .str a0) :: (37, .bool true) :: E28)
     refine oR 4 (p' := (atN 16 (ctl1 g79p7))) (eE := E29) (H' := (mkH [])) (by kernel_rfl) ?_
     refine oH (fun (x1_16 : Int) => (.int .u8 x1_16, (mkH []))) (atN 17 (ctl1 g79p7)) (fun x1_16 => ((42, .int .u8 x1_16) :: E29)) (idxH (by kernel_rfl)) (fun _ => by kernel_rfl) (fun x1_16 hx1_16 => ?_)
     refine oC (fun (x1_17 : Int) => .int .i64 x1_17) (atN 18 (ctl1 g79p7)) (fun x1_17 => ((43, .int .i64 x1_17) :: (42, .int .u8 x1_16) :: E29)) (fi := 75) (args := [.int .u8 x1_16]) (by kernel_rfl) (by kernel_rfl) (fun _ => by kernel_rfl) (fun r h => g75_ok k x1_16 r h) (fun _ => by kernel_rfl) (fun x1_17 hx1_17 => ?_)
     refine oR 3 (p' := g79p8) (eE := ((45, .bool (decide (x1_17 < 16))) :: (44, .bool (decide (x1_17 < 16))) :: (43, .int .i64 x1_17) :: (42, .int .u8 x1_16) :: E29)) (H' := (mkH [])) (by kernel_rfl) ?_
     refine oK [0, 1, 6, 7, 8, 9, 10, 45] (eE := [(0, .str a0), (1, .int .i64 a1), (6, .int .i64 z5.1), (7, .int .i64 z5.2.1), (8, .int .i64 z5.2.2), (9, .int .i64 y6_0), (10, .int .i64 y6_1), (45, .bool (decide (x1_17 < 16)))]) (by kernel_rfl) ?_
     exact hj7 (decide (x1_17 < 16), y6_0, y6_1)
    ·let E30 : Env := ((45, .bool false) :: (44, .tuple []) :: (43, .tuple []) :: (42, .tuple []) :: (41, .tuple []) :: (40, .tuple []) :: (39, .tuple []) :: (38, .tuple []) :: (37, .bool false) :: E28)
     refine oR 9 (p' := g79p8) (eE := E30) (H' := (mkH [])) (by kernel_rfl) ?_
     refine oK [0, 1, 6, 7, 8, 9, 10, 45] (eE := [(0, .str a0), (1, .int .i64 a1), (6, .int .i64 z5.1), (7, .int .i64 z5.2.1), (8, .int .i64 z5.2.2), (9, .int .i64 y6_0), (10, .int .i64 y6_1), (45, .bool false)]) (by kernel_rfl) ?_
     exact hj7 (false, y6_0, y6_1)
   ·let E31 : Env := ((45, .bool false) :: (44, .tuple []) :: (43, .tuple []) :: (42, .tuple []) :: (41, .tuple []) :: (40, .tuple []) :: (39, .tuple []) :: (38, .tuple []) :: (37, .bool false) :: (36, .bool false) :: (35, .tuple []) :: (34, .tuple []) :: (33, .tuple []) :: (32, .tuple []) :: (31, .tuple []) :: (30, .tuple []) :: (29, .bool false) :: E3)
    refine oR 17 (p' := g79p8) (eE := E31) (H' := (mkH [])) (by kernel_rfl) ?_
    refine oK [0, 1, 6, 7, 8, 9, 10, 45] (eE := [(0, .str a0), (1, .int .i64 a1), (6, .int .i64 z5.1), (7, .int .i64 z5.2.1), (8, .int .i64 z5.2.2), (9, .int .i64 y6_0), (10, .int .i64 y6_1), (45, .bool false)]) (by kernel_rfl) ?_
    exact hj7 (false, y6_0, y6_1)
def g79 (k : Nat) (a0 : (List Nat)) (a1 : Int) : Option (Int × Int) :=
 jn (fun (z4 : Bool) => jn (fun (z5 : Int × Int × Int) => g79_l6 k a0 a1 z5 k 0 0) (fun j5 => if z4 then (j5 (fW .i64 (fW .i64 (a1 + 2) + 1), 6, 1)) else (j5 (fW .i64 (a1 + 2), 2, 0)))) (fun j4 => if (decide (fW .i64 (a1 + 2) < (a0.length : Int))) then ((nthS a0 (fW .i64 (a1 + 2))).bind fun x0_7 => j4 (decide (x0_7 = 123))) else (j4 false))
theorem g79_ok (k : Nat) (a0 : (List Nat)) (a1 : Int) (r : (Int × Int)) (h : g79 k a0 a1 = some r) : PureOk Try.prog 79 [.str a0, .int .i64 a1] (.tuple [.int .i64 r.1, .int .i64 r.2]) := by
 refine pure_of X79 (fun _ => rfl) Try.func79 (by decide +kernel) (by kernel_rfl) (t := g79 k a0 a1) ?_ h
 unfold g79
 refine oE (eE := [(0, .str a0), (1, .int .i64 a1)]) (by kernel_rfl) ?_
 let E1 : Env := [(18, .bool (decide (fW .i64 (a1 + 2) < (a0.length : Int)))), (17, .bool (decide (fW .i64 (a1 + 2) < (a0.length : Int)))), (16, .int .i64 (a0.length : Int)), (15, .str a0), (14, .int .i64 (fW .i64 (a1 + 2))), (8, .int .i64 0), (7, .int .i64 2), (6, .int .i64 (fW .i64 (a1 + 2))), (13, .int .i64 (fW .i64 (a1 + 2))), (12, .int .i64 a1), (5, .int .i64 0), (4, .int .i64 0), (0, .str a0), (1, .int .i64 a1)]
 refine oR 21 (p' := (atN 5 (ctl1 g79p2))) (eE := E1) (H' := (mkH [])) (by kernel_rfl) ?_
 refine oJ (f := fun (z4 : Bool) => jn (fun (z5 : Int × Int × Int) => g79_l6 k a0 a1 z5 k 0 0) (fun j5 => if z4 then (j5 (fW .i64 (fW .i64 (a1 + 2) + 1), 6, 1)) else (j5 (fW .i64 (a1 + 2), 2, 0)))) g79p3 (fun (z4 : Bool) => [(0, .str a0), (1, .int .i64 a1), (6, .int .i64 (fW .i64 (a1 + 2))), (7, .int .i64 2), (8, .int .i64 0), (23, .bool z4)]) (fun (z4 : Bool) => (mkH [])) (fun z4 => ?_) (fun j4 hj4 => ?_)
 ·refine oJ (f := fun (z5 : Int × Int × Int) => g79_l6 k a0 a1 z5 k 0 0) g79p5 (fun (z5 : Int × Int × Int) => [(0, .str a0), (1, .int .i64 a1), (6, .int .i64 z5.1), (7, .int .i64 z5.2.1), (8, .int .i64 z5.2.2)]) (fun (z5 : Int × Int × Int) => (mkH [])) (fun z5 => ?_) (fun j5 hj5 => ?_)
  ·let E2 : Env := [(10, .int .i64 0), (9, .int .i64 0), (0, .str a0), (1, .int .i64 a1), (6, .int .i64 z5.1), (7, .int .i64 z5.2.1), (8, .int .i64 z5.2.2)]
   refine oR 7 (p' := g79p6) (eE := E2) (H' := (mkH [])) (by kernel_rfl) ?_
   refine oK [0, 1, 6, 7, 8, 9, 10] (eE := [(0, .str a0), (1, .int .i64 a1), (6, .int .i64 z5.1), (7, .int .i64 z5.2.1), (8, .int .i64 z5.2.2), (9, .int .i64 0), (10, .int .i64 0)]) (by kernel_rfl) ?_
   exact (g79_l6_ok k a0 a1 z5 k) 0 0
  ·refine oS 23 (b := z4) (by kernel_rfl) (fun hb => ?_) (fun hb => ?_)
   ·let E32 : Env := [(8, .int .i64 1), (7, .int .i64 6), (6, .int .i64 (fW .i64 (fW .i64 (a1 + 2) + 1))), (25, .int .i64 (fW .i64 (fW .i64 (a1 + 2) + 1))), (24, .int .i64 (fW .i64 (a1 + 2))), (23, .bool true), (0, .str a0), (1, .int .i64 a1), (6, .int .i64 (fW .i64 (a1 + 2))), (7, .int .i64 2), (8, .int .i64 0), (23, .bool z4)]
    refine oR 9 (p' := g79p5) (eE := E32) (H' := (mkH [])) (by kernel_rfl) ?_
    refine oK [0, 1, 6, 7, 8] (eE := [(0, .str a0), (1, .int .i64 a1), (6, .int .i64 (fW .i64 (fW .i64 (a1 + 2) + 1))), (7, .int .i64 6), (8, .int .i64 1)]) (by kernel_rfl) ?_
    exact hj5 (fW .i64 (fW .i64 (a1 + 2) + 1), 6, 1)
   ·let E33 : Env := [(23, .bool false), (0, .str a0), (1, .int .i64 a1), (6, .int .i64 (fW .i64 (a1 + 2))), (7, .int .i64 2), (8, .int .i64 0), (23, .bool z4)]
    refine oR 3 (p' := g79p5) (eE := E33) (H' := (mkH [])) (by kernel_rfl) ?_
    refine oK [0, 1, 6, 7, 8] (eE := [(0, .str a0), (1, .int .i64 a1), (6, .int .i64 (fW .i64 (a1 + 2))), (7, .int .i64 2), (8, .int .i64 0)]) (by kernel_rfl) ?_
    exact hj5 (fW .i64 (a1 + 2), 2, 0)
 ·refine oS 18 (b := decide (fW .i64 (a1 + 2) < (a0.length : Int))) (by kernel_rfl) (fun hb => ?_) (fun hb => ?_)
  ·refine oR 2 (p' := (atN 7 (ctl1 g79p2))) (eE := ((20, .int .i64 (fW .i64 (a1 + 2))) :: (19, .str a0) :: (18, .bool true) :: E1)) (H' := (mkH [])) (by kernel_rfl) ?_
   refine oH (fun (x0_7 : Int) => (.int .u8 x0_7, (mkH []))) (atN 8 (ctl1 g79p2)) (fun x0_7 => ((21, .int .u8 x0_7) :: (20, .int .i64 (fW .i64 (a1 + 2))) :: (19, .str a0) :: (18, .bool true) :: E1)) (idxH (by kernel_rfl)) (fun _ => by kernel_rfl) (fun x0_7 hx0_7 => ?_)
   let E34 : Env := ((23, .bool (decide (x0_7 = 123))) :: (22, .bool (decide (x0_7 = 123))) :: (21, .int .u8 x0_7) :: (20, .int .i64 (fW .i64 (a1 + 2))) :: (19, .str a0) :: (18, .bool true) :: E1)
   refine oR 3 (p' := g79p3) (eE := E34) (H' := (mkH [])) (by kernel_rfl) ?_
   refine oK [0, 1, 6, 7, 8, 23] (eE := [(0, .str a0), (1, .int .i64 a1), (6, .int .i64 (fW .i64 (a1 + 2))), (7, .int .i64 2), (8, .int .i64 0), (23, .bool (decide (x0_7 = 123)))]) (by kernel_rfl) ?_
   exact hj4 (decide (x0_7 = 123))
  ·let E35 : Env := ((23, .bool false) :: (22, .tuple []) :: (21, .tuple []) :: (20, .tuple []) :: (19, .tuple []) :: (18, .bool false) :: E1)
   refine oR 6 (p' := g79p3) (eE := E35) (H' := (mkH [])) (by kernel_rfl) ?_
   refine oK [0, 1, 6, 7, 8, 23] (eE := [(0, .str a0), (1, .int .i64 a1), (6, .int .i64 (fW .i64 (a1 + 2))), (7, .int .i64 2), (8, .int .i64 0), (23, .bool false)]) (by kernel_rfl) ?_
   exact hj4 false
end
end Go.Proofs.Ytabhkocokojddaa.Am
set_option maxRecDepth 100000
set_option linter.unusedVariables false
namespace Go.Proofs.Ytabhkocokojddaa.Am
noncomputable section
open Go
def X80 : Fx (Int × Int) := ⟨Try.prog, cx, Try.f80, fun r => .tuple [.int .i64 r.1, .int .i64 r.2], 0, fun _ => H0, cxTi, cxOrd⟩
def g80p0 : Pt := nav [0] (bodyAt Try.f80)
def g80p1 : Pt := nav [0, 0, 0, 0] g80p0
def g80p2 : Pt := nav [0, 0] g80p1
def g80p4 : Pt := nav [2, 0, 0] g80p2
def g80p6 : Pt := nav [0, 0, 0, 0] g80p4
def g80p7 : Pt := nav [0, 0] g80p6
def g80 (k : Nat) (a0 : (List Nat)) (a1 : Int) : Option (Int × Int) :=
 if (decide ((a0.length : Int) ≤ fW .i64 (a1 + 2))) then (some (((-1) : Int), (0 : Int))) else ((nthS a0 (fW .i64 (a1 + 2))).bind fun x0_3 => jn (fun (z1 : Bool) => if z1 then (some (((-1) : Int), (0 : Int))) else (some (fW .i64 (andI .u8 x0_3 31), (3 : Int)))) (fun j1 => if (decide (x0_3 < 64)) then (j1 true) else (if (decide (95 < x0_3)) then (if (decide (x0_3 < 97)) then (j1 true) else (j1 (decide (122 < x0_3)))) else (j1 false))))
theorem g80_ok (k : Nat) (a0 : (List Nat)) (a1 : Int) (r : (Int × Int)) (h : g80 k a0 a1 = some r) : PureOk Try.prog 80 [.str a0, .int .i64 a1] (.tuple [.int .i64 r.1, .int .i64 r.2]) := by
 refine pure_of X80 (fun _ => rfl) Try.func80 (by decide +kernel) (by kernel_rfl) (t := g80 k a0 a1) ?_ h
 unfold g80
 refine oE (eE := [(0, .str a0), (1, .int .i64 a1)]) (by kernel_rfl) ?_
 let E1 : Env := [(11, .bool (decide ((a0.length : Int) ≤ fW .i64 (a1 + 2)))), (10, .int .i64 (a0.length : Int)), (9, .str a0), (8, .int .i64 (fW .i64 (a1 + 2))), (7, .int .i64 a1), (5, .int .i64 0), (4, .int .i64 0), (0, .str a0), (1, .int .i64 a1)]
 refine oR 14 (p' := g80p2) (eE := E1) (H' := (mkH [])) (by kernel_rfl) ?_
 refine oS 11 (b := decide ((a0.length : Int) ≤ fW .i64 (a1 + 2))) (by kernel_rfl) (fun hb => ?_) (fun hb => ?_)
 ·refine oR 7 (p' := .fin) (eE := ((5, .int .i64 0) :: (4, .int .i64 (-1)) :: (11, .bool true) :: E1)) (H' := (mkH [])) (by kernel_rfl) ?_
  exact oT (r := (((-1) : Int), (0 : Int))) (xs := [.int .i64 (-1), .int .i64 0]) (v := .tuple [.int .i64 (-1), .int .i64 0]) (by kernel_rfl) (by kernel_rfl) (by kernel_rfl) (.pures (by kernel_rfl)) (by kernel_rfl)
 ·refine oR 7 (p' := (atN 3 (ctl1 g80p4))) (eE := ((14, .int .i64 (fW .i64 (a1 + 2))) :: (13, .int .i64 a1) :: (12, .str a0) :: (11, .bool false) :: E1)) (H' := (mkH [])) (by kernel_rfl) ?_
  refine oH (fun (x0_3 : Int) => (.int .u8 x0_3, (mkH []))) (atN 4 (ctl1 g80p4)) (fun x0_3 => ((15, .int .u8 x0_3) :: (14, .int .i64 (fW .i64 (a1 + 2))) :: (13, .int .i64 a1) :: (12, .str a0) :: (11, .bool false) :: E1)) (idxH (by kernel_rfl)) (fun _ => by kernel_rfl) (fun x0_3 hx0_3 => ?_)
  let E2 : Env := ((6, .int .u8 x0_3) :: (15, .int .u8 x0_3) :: (14, .int .i64 (fW .i64 (a1 + 2))) :: (13, .int .i64 a1) :: (12, .str a0) :: (11, .bool false) :: E1)
  refine oR 4 (p' := g80p6) (eE := E2) (H' := (mkH [])) (by kernel_rfl) ?_
  refine oK [6] (eE := [(6, .int .u8 x0_3)]) (by kernel_rfl) ?_
  refine oR 4 (p' := (atN 3 (ctl1 g80p6))) (eE := [(18, .bool (decide (x0_3 < 64))), (17, .bool (decide (x0_3 < 64))), (16, .int .u8 x0_3), (6, .int .u8 x0_3)]) (H' := (mkH [])) (by kernel_rfl) ?_
  refine oJ (f := fun (z1 : Bool) => if z1 then (some (((-1) : Int), (0 : Int))) else (some (fW .i64 (andI .u8 x0_3 31), (3 : Int)))) g80p7 (fun (z1 : Bool) => [(6, .int .u8 x0_3), (29, .bool z1)]) (fun (z1 : Bool) => (mkH [])) (fun z1 => ?_) (fun j1 hj1 => ?_)
  ·refine oS 29 (b := z1) (by kernel_rfl) (fun hb => ?_) (fun hb => ?_)
   ·let E3 : Env := [(5, .int .i64 0), (4, .int .i64 (-1)), (29, .bool true), (6, .int .u8 x0_3), (29, .bool z1)]
    refine oR 7 (p' := .fin) (eE := E3) (H' := (mkH [])) (by kernel_rfl) ?_
    exact oT (r := (((-1) : Int), (0 : Int))) (xs := [.int .i64 (-1), .int .i64 0]) (v := .tuple [.int .i64 (-1), .int .i64 0]) (by kernel_rfl) (by kernel_rfl) (by kernel_rfl) (.pures (by kernel_rfl)) (by kernel_rfl)
   ·let E4 : Env := [(5, .int .i64 3), (4, .int .i64 (fW .i64 (andI .u8 x0_3 31))), (32, .int .i64 (fW .i64 (andI .u8 x0_3 31))), (31, .int .u8 (andI .u8 x0_3 31)), (30, .int .u8 x0_3), (29, .bool false), (6, .int .u8 x0_3), (29, .bool z1)]
    refine oR 11 (p' := .fin) (eE := E4) (H' := (mkH [])) (by kernel_rfl) ?_
    exact oT (r := (fW .i64 (andI .u8 x0_3 31), (3 : Int))) (xs := [.int .i64 (fW .i64 (andI .u8 x0_3 31)), .int .i64 3]) (v := .tuple [.int .i64 (fW .i64 (andI .u8 x0_3 31)), .int .i64 3]) (by kernel_rfl) (by kernel_rfl) (by kernel_rfl) (.pures (by kernel_rfl)) (by kernel_rfl)
  ·refine oS 18 (b := decide (x0_3 < 64)) (by kernel_rfl) (fun hb => ?_) (fun hb => ?_)
   ·let E5 : Env := [(29, .bool true), (28, .tuple []), (27, .tuple []), (26, .tuple []), (25, .tuple []), (24, .tuple []), (23, .tuple []), (22, .tuple []), (21, .tuple []), (20, .tuple []), (19, .tuple []), (18, .bool true), (18, .bool (decide (x0_3 < 64))), (17, .bool (decide (x0_3 < 64))), (16, .int .u8 x0_3), (6, .int .u8 x0_3)]
    refine oR 12 (p' := g80p7) (eE := E5) (H' := (mkH [])) (by kernel_rfl) ?_
    refine oK [6, 29] (eE := [(6, .int .u8 x0_3), (29, .bool true)]) (by kernel_rfl) ?_
    exact hj1 true
   ·let E6 : Env := [(21, .bool (decide (95 < x0_3))), (20, .bool (decide (95 < x0_3))), (19, .int .u8 x0_3), (18, .bool false), (18, .bool (decide (x0_3 < 64))), (17, .bool (decide (x0_3 < 64))), (16, .int .u8 x0_3), (6, .int .u8 x0_3)]
    refine oR 3 (p' := (atN 6 (ctl1 g80p6))) (eE := E6) (H' := (mkH [])) (by kernel_rfl) ?_
    refine oS 21 (b := decide (95 < x0_3)) (by kernel_rfl) (fun hb => ?_) (fun hb => ?_)
    ·refine oR 3 (p' := (atN 9 (ctl1 g80p6))) (eE := ((24, .bool (decide (x0_3 < 97))) :: (23, .bool (decide (x0_3 < 97))) :: (22, .int .u8 x0_3) :: (21, .bool true) :: E6)) (H' := (mkH [])) (by kernel_rfl) ?_
     refine oS 24 (b := decide (x0_3 < 97)) (by kernel_rfl) (fun hb => ?_) (fun hb => ?_)
     ·let E7 : Env := ((29, .bool true) :: (28, .bool true) :: (27, .bool true) :: (26, .tuple []) :: (25, .tuple []) :: (24, .bool true) :: (24, .bool (decide (x0_3 < 97))) :: (23, .bool (decide (x0_3 < 97))) :: (22, .int .u8 x0_3) :: (21, .bool true) :: E6)
      refine oR 6 (p' := g80p7) (eE := E7) (H' := (mkH [])) (by kernel_rfl) ?_
      refine oK [6, 29] (eE := [(6, .int .u8 x0_3), (29, .bool true)]) (by kernel_rfl) ?_
      exact hj1 true
     ·let E8 : Env := ((29, .bool (decide (122 < x0_3))) :: (28, .bool (decide (122 < x0_3))) :: (27, .bool (decide (122 < x0_3))) :: (26, .bool (decide (122 < x0_3))) :: (25, .int .u8 x0_3) :: (24, .bool false) :: (24, .bool (decide (x0_3 < 97))) :: (23, .bool (decide (x0_3 < 97))) :: (22, .int .u8 x0_3) :: (21, .bool true) :: E6)
      refine oR 6 (p' := g80p7) (eE := E8) (H' := (mkH [])) (by kernel_rfl) ?_
      refine oK [6, 29] (eE := [(6, .int .u8 x0_3), (29, .bool (decide (122 < x0_3)))]) (by kernel_rfl) ?_
      exact hj1 (decide (122 < x0_3))
    ·let E9 : Env := ((29, .bool false) :: (28, .bool false) :: (27, .tuple []) :: (26, .tuple []) :: (25, .tuple []) :: (24, .tuple []) :: (23, .tuple []) :: (22, .tuple []) :: (21, .bool false) :: E6)
     refine oR 9 (p' := g80p7) (eE := E9) (H' := (mkH [])) (by kernel_rfl) ?_
     refine oK [6, 29] (eE := [(6, .int .u8 x0_3), (29, .bool false)]) (by kernel_rfl) ?_
     exact hj1 false
end
end Go.Proofs.Ytabhkocokojddaa.Am
set_option maxRecDepth 100000
set_option linter.unusedVariables false
namespace Go.Proofs.Ytabhkocokojddaa.Am
noncomputable section
open Go
def X41 : Fx (Int × Int) := ⟨Try.prog, cx, Try.f41, fun r => .tuple [.int .i64 r.1, .int .i64 r.2], 0, fun _ => H0, cxTi, cxOrd⟩
def g41p0 : Pt := nav [0] (bodyAt Try.f41)
def g41p1 : Pt := nav [0, 0, 0, 0] g41p0
def g41p2 : Pt := nav [0, 0] g41p1
def g41p4 : Pt := nav [2, 0, 0] g41p2
def g41p6 : Pt := nav [0, 0, 0, 0, 0] g41p4
def g41p7 : Pt := nav [0, 0] g41p6
def g41p8 : Pt := nav [1, 0] g41p7
def g41p9 : Pt := nav [2, 0] g41p7
def g41p10 : Pt := nav [0, 0] g41p9
def g41p11 : Pt := nav [1, 0] g41p10
def g41p12 : Pt := nav [2, 0] g41p10
def g41p13 : Pt := nav [0, 0] g41p12
def g41p14 : Pt := nav [1, 0] g41p13
def g41p15 : Pt := nav [2, 0, 0, 0] g41p13
def g41p16 : Pt := nav [0, 0, 0, 0, 0] g41p14
def g41p17 : Pt := nav [0, 0, 0, 0] g41p15
def g41p18 : Pt := nav [0, 0, 0] g41p16
def g41p19 : Pt := nav [0, 0] g41p17
def g41p20 : Pt := nav [0, 0] g41p18
def g41p21 : Pt := nav [0, 0, 0] g41p19
def g41p22 : Pt := nav [1, 0, 0, 0] g41p20
def g41p24 : Pt := nav [1, 0, 0, 0] g41p21
def g41p25 : Pt := nav [2, 0, 0] g41p21
def g41p26 : Pt := nav [0, 0] g41p22
def g41p27 : Pt := nav [0, 0, 0] g41p24
def g41p28 : Pt := nav [0, 0, 0, 0] g41p25
def g41p29 : Pt := nav [0, 0] g41p27
def g41p30 : Pt := nav [0, 0] g41p28
def g41_l9 (k : Nat)  (a0 : (List Nat)) (a1 : Int) (n : Nat) : Int → Int → Option (Int × Int) :=
 Nat.rec (motive := fun _ => Int → Int → Option (Int × Int)) (fun _ _ => none) (fun _ ih => fun (y9_0 : Int) (y9_1 : Int) => jn (fun (z10 : Bool × Int × Int) => if z10.1 then ((nthS a0 (fW .i64 (a1 + z10.2.1))).bind fun x6_6 => (g75 k x6_6).bind fun x6_7 => ih (orI .i64 (shlC .i64 z10.2.2 3) x6_7) (fW .i64 (z10.2.1 + 1))) else (some (z10.2.2, z10.2.1))) (fun j10 => if (decide (y9_1 < 4)) then (if (decide (fW .i64 (a1 + y9_1) < (a0.length : Int))) then ((nthS a0 (fW .i64 (a1 + y9_1))).bind fun x5_15 => (g75 k x5_15).bind fun x5_16 => j10 (decide (x5_16 < 8), y9_1, y9_0)) else (j10 (false, y9_1, y9_0))) else (j10 (false, y9_1, y9_0)))) n
theorem g41_l9_s (k : Nat)  (a0 : (List Nat)) (a1 : Int) (n : Nat) (y9_0 : Int) (y9_1 : Int) : g41_l9 k a0 a1 (n + 1) y9_0 y9_1 = (jn (fun (z10 : Bool × Int × Int) => if z10.1 then ((nthS a0 (fW .i64 (a1 + z10.2.1))).bind fun x6_6 => (g75 k x6_6).bind fun x6_7 => (g41_l9 k a0 a1 n) (orI .i64 (shlC .i64 z10.2.2 3) x6_7) (fW .i64 (z10.2.1 + 1))) else (some (z10.2.2, z10.2.1))) (fun j10 => if (decide (y9_1 < 4)) then (if (decide (fW .i64 (a1 + y9_1) < (a0.length : Int))) then ((nthS a0 (fW .i64 (a1 + y9_1))).bind fun x5_15 => (g75 k x5_15).bind fun x5_16 => j10 (decide (x5_16 < 8), y9_1, y9_0)) else (j10 (false, y9_1, y9_0))) else (j10 (false, y9_1, y9_0)))) := rfl
theorem g41_l9_ok (k : Nat)  (a0 : (List Nat)) (a1 : Int)  : ∀ (n : Nat) (y9_0 : Int) (y9_1 : Int), Ok X41 g41p16 [(0, .str a0), (1, .int .i64 a1), (7, .int .i64 y9_0), (8, .int .i64 y9_1)] (mkH []) (g41_l9 k a0 a1 n y9_0 y9_1)
 | 0, _, _ => ok_none
 | n + 1, y9_0, y9_1 => by
  have ih := g41_l9_ok k a0 a1 n
  rw [g41_l9_s]
  refine ok_ent (p' := nav [0] g41p16) (by kernel_rfl) ?_
  let E10 : Env := [(63, .bool (decide (y9_1 < 4))), (62, .bool (decide (y9_1 < 4))), (61, .int .i64 y9_1), (0, .str a0), (1, .int .i64 a1), (7, .int .i64 y9_0), (8, .int .i64 y9_1)]
  refine oR 6 (p' := (atN 3 (ctl1 g41p18))) (eE := E10) (H' := (mkH [])) (by kernel_rfl) ?_
  refine oJ (f := fun (z10 : Bool × Int × Int) => if z10.1 then ((nthS a0 (fW .i64 (a1 + z10.2.1))).bind fun x6_6 => (g75 k x6_6).bind fun x6_7 => (g41_l9 k a0 a1 n) (orI .i64 (shlC .i64 z10.2.2 3) x6_7) (fW .i64 (z10.2.1 + 1))) else (some (z10.2.2, z10.2.1))) g41p20 (fun (z10 : Bool × Int × Int) => [(0, .str a0), (1, .int .i64 a1), (7, .int .i64 z10.2.2), (8, .int .i64 z10.2.1), (79, .bool z10.1)]) (fun (z10 : Bool × Int × Int) => (mkH [])) (fun z10 => ?_) (fun j10 hj10 => ?_)
  ·refine oS 79 (b := z10.1) (by kernel_rfl) (fun hb => ?_) (fun hb => ?_)
   ·let E11 : Env := [(85, .int .i64 (fW .i64 (a1 + z10.2.1))), (84, .int .i64 z10.2.1), (83, .int .i64 a1), (82, .str a0), (81, .int .i64 (shlC .i64 z10.2.2 3)), (80, .int .i64 z10.2.2), (79, .bool true), (0, .str a0), (1, .int .i64 a1), (7, .int .i64 z10.2.2), (8, .int .i64 z10.2.1), (79, .bool z10.1)]
    refine oR 11 (p' := (atN 6 (ctl1 g41p22))) (eE := E11) (H' := (mkH [])) (by kernel_rfl) ?_
    refine oH (fun (x6_6 : Int) => (.int .u8 x6_6, (mkH []))) (atN 7 (ctl1 g41p22)) (fun x6_6 => ((86, .int .u8 x6_6) :: E11)) (idxH (by kernel_rfl)) (fun _ => by kernel_rfl) (fun x6_6 hx6_6 => ?_)
    refine oC (fun (x6_7 : Int) => .int .i64 x6_7) (atN 8 (ctl1 g41p22)) (fun x6_7 => ((87, .int .i64 x6_7) :: (86, .int .u8 x6_6) :: E11)) (fi := 75) (args := [.int .u8 x6_6]) (by kernel_rfl) (by kernel_rfl) (fun _ => by kernel_rfl) (fun r h => g75_ok k x6_6 r h) (fun _ => by kernel_rfl) (fun x6_7 hx6_7 => ?_)
    refine oR 3 (p' := g41p26) (eE := ((7, .int .i64 (orI .i64 (shlC .i64 z10.2.2 3) x6_7)) :: (88, .int .i64 (orI .i64 (shlC .i64 z10.2.2 3) x6_7)) :: (87, .int .i64 x6_7) :: (86, .int .u8 x6_6) :: E11)) (H' := (mkH [])) (by kernel_rfl) ?_
    refine oK [0, 1, 7, 8] (eE := [(0, .str a0), (1, .int .i64 a1), (7, .int .i64 (orI .i64 (shlC .i64 z10.2.2 3) x6_7)), (8, .int .i64 z10.2.1)]) (by kernel_rfl) ?_
    let E12 : Env := [(8, .int .i64 (fW .i64 (z10.2.1 + 1))), (90, .int .i64 (fW .i64 (z10.2.1 + 1))), (89, .int .i64 z10.2.1), (0, .str a0), (1, .int .i64 a1), (7, .int .i64 (orI .i64 (shlC .i64 z10.2.2 3) x6_7)), (8, .int .i64 z10.2.1)]
    refine oR 5 (p' := g41p16) (eE := E12) (H' := (mkH [])) (by kernel_rfl) ?_
    refine oK [0, 1, 7, 8] (eE := [(0, .str a0), (1, .int .i64 a1), (7, .int .i64 (orI .i64 (shlC .i64 z10.2.2 3) x6_7)), (8, .int .i64 (fW .i64 (z10.2.1 + 1)))]) (by kernel_rfl) ?_
    exact ih (orI .i64 (shlC .i64 z10.2.2 3) x6_7) (fW .i64 (z10.2.1 + 1))
   ·let E13 : Env := [(5, .int .i64 z10.2.1), (4, .int .i64 z10.2.2), (92, .int .i64 z10.2.1), (91, .int .i64 z10.2.2), (79, .bool false), (0, .str a0), (1, .int .i64 a1), (7, .int .i64 z10.2.2), (8, .int .i64 z10.2.1), (79, .bool z10.1)]
    refine oR 10 (p' := .fin) (eE := E13) (H' := (mkH [])) (by kernel_rfl) ?_
    exact oT (r := (z10.2.2, z10.2.1)) (xs := [.int .i64 z10.2.2, .int .i64 z10.2.1]) (v := .tuple [.int .i64 z10.2.2, .int .i64 z10.2.1]) (by kernel_rfl) (by kernel_rfl) (by kernel_rfl) (.pures (by kernel_rfl)) (by kernel_rfl)
  ·refine oS 63 (b := decide (y9_1 < 4)) (by kernel_rfl) (fun hb => ?_) (fun hb => ?_)
   ·let E14 : Env := ((71, .bool (decide (fW .i64 (a1 + y9_1) < (a0.length : Int)))) :: (70, .bool (decide (fW .i64 (a1 + y9_1) < (a0.length : Int)))) :: (69, .bool (decide (fW .i64 (a1 + y9_1) < (a0.length : Int)))) :: (68, .int .i64 (a0.length : Int)) :: (67, .str a0) :: (66, .int .i64 (fW .i64 (a1 + y9_1))) :: (65, .int .i64 y9_1) :: (64, .int .i64 a1) :: (63, .bool true) :: E10)
    refine oR 8 (p' := (atN 11 (ctl1 g41p18))) (eE := E14) (H' := (mkH [])) (by kernel_rfl) ?_
    refine oS 71 (b := decide (fW .i64 (a1 + y9_1) < (a0.length : Int))) (by kernel_rfl) (fun hb => ?_) (fun hb => ?_)
    ·let E15 : Env := ((75, .int .i64 (fW .i64 (a1 + y9_1))) :: (74, .int .i64 y9_1) :: (73, .int .i64 a1) :: (72, .str a0) :: (71, .bool true) :: E14)
     refine oR 4 (p' := (atN 15 (ctl1 g41p18))) (eE := E15) (H' := (mkH [])) (by kernel_rfl) ?_
     refine oH (fun (x5_15 : Int) => (.int .u8 x5_15, (mkH []))) (atN 16 (ctl1 g41p18)) (fun x5_15 => ((76, .int .u8 x5_15) :: E15)) (idxH (by kernel_rfl)) (fun _ => by kernel_rfl) (fun x5_15 hx5_15 => ?_)
     refine oC (fun (x5_16 : Int) => .int .i64 x5_16) (atN 17 (ctl1 g41p18)) (fun x5_16 => ((77, .int .i64 x5_16) :: (76, .int .u8 x5_15) :: E15)) (fi := 75) (args := [.int .u8 x5_15]) (by kernel_rfl) (by kernel_rfl) (fun _ => by kernel_rfl) (fun r h => g75_ok k x5_15 r h) (fun _ => by kernel_rfl) (fun x5_16 hx5_16 => ?_)
     refine oR 3 (p' := g41p20) (eE := ((79, .bool (decide (x5_16 < 8))) :: (78, .bool (decide (x5_16 < 8))) :: (77, .int .i64 x5_16) :: (76, .int .u8 x5_15) :: E15)) (H' := (mkH [])) (by kernel_rfl) ?_
     refine oK [0, 1, 7, 8, 79] (eE := [(0, .str a0), (1, .int .i64 a1), (7, .int .i64 y9_0), (8, .int .i64 y9_1), (79, .bool (decide (x5_16 < 8)))]) (by kernel_rfl) ?_
     exact hj10 (decide (x5_16 < 8), y9_1, y9_0)
    ·let E16 : Env := ((79, .bool false) :: (78, .tuple []) :: (77, .tuple []) :: (76, .tuple []) :: (75, .tuple []) :: (74, .tuple []) :: (73, .tuple []) :: (72, .tuple []) :: (71, .bool false) :: E14)
     refine oR 9 (p' := g41p20) (eE := E16) (H' := (mkH [])) (by kernel_rfl) ?_
     refine oK [0, 1, 7, 8, 79] (eE := [(0, .str a0), (1, .int .i64 a1), (7, .int .i64 y9_0), (8, .int .i64 y9_1), (79, .bool false)]) (by kernel_rfl) ?_
     exact hj10 (false, y9_1, y9_0)
   ·let E17 : Env := ((79, .bool false) :: (78, .tuple []) :: (77, .tuple []) :: (76, .tuple []) :: (75, .tuple []) :: (74, .tuple []) :: (73, .tuple []) :: (72, .tuple []) :: (71, .bool false) :: (70, .bool false) :: (69, .tuple []) :: (68, .tuple []) :: (67, .tuple []) :: (66, .tuple []) :: (65, .tuple []) :: (64, .tuple []) :: (63, .bool false) :: E10)
    refine oR 17 (p' := g41p20) (eE := E17) (H' := (mkH [])) (by kernel_rfl) ?_
    refine oK [0, 1, 7, 8, 79] (eE := [(0, .str a0), (1, .int .i64 a1), (7, .int .i64 y9_0), (8, .int .i64 y9_1), (79, .bool false)]) (by kernel_rfl) ?_
    exact hj10 (false, y9_1, y9_0)
def g41 (k : Nat) (a0 : (List Nat)) (a1 : Int) : Option (Int × Int) :=
 jn (fun (z7 : Bool) => if z7 then (some (((-1) : Int), (0 : Int))) else ((nthS a0 (fW .i64 (a1 + 1))).bind fun x1_3 => if (decide (x1_3 = 120)) then ((g79 k a0 a1).bind fun x2_2 => some (x2_2.1, x2_2.2)) else (if (decide (x1_3 = 94)) then ((g80 k a0 a1).bind fun x3_2 => some (x3_2.1, x3_2.2)) else (jn (fun (z8 : Bool) => if z8 then (g41_l9 k a0 a1 k 0 1) else (if (decide (x1_3 = 98)) then (some ((8 : Int), (2 : Int))) else (if (decide (x1_3 = 100)) then (some ((127 : Int), (2 : Int))) else (if (decide (x1_3 = 101)) then (some ((27 : Int), (2 : Int))) else (if (decide (x1_3 = 102)) then (some ((12 : Int), (2 : Int))) else (if (decide (x1_3 = 110)) then (some ((10 : Int), (2 : Int))) else (if (decide (x1_3 = 114)) then (some ((13 : Int), (2 : Int))) else (if (decide (x1_3 = 115)) then (some ((32 : Int), (2 : Int))) else (if (decide (x1_3 = 116)) then (some ((9 : Int), (2 : Int))) else (if (decide (x1_3 = 118)) then (some ((11 : Int), (2 : Int))) else ((g78 k a0 (fW .i64 (a1 + 1))).bind fun x4_3 => if (decide (x4_3.1 < 32)) then (some (((-1) : Int), (0 : Int))) else (some (x4_3.1, fW .i64 (x4_3.2 + 1)))))))))))))) (fun j8 => if (decide (48 ≤ x1_3)) then (j8 (decide (x1_3 ≤ 55))) else (j8 false)))))) (fun j7 => if (decide (a1 < 0)) then (j7 true) else (if (decide ((a0.length : Int) ≤ a1)) then (j7 true) else ((nthS a0 a1).bind fun x0_11 => if (!decide (x0_11 = 92)) then (j7 true) else (j7 (decide ((a0.length : Int) ≤ fW .i64 (a1 + 1)))))))
theorem g41_ok (k : Nat) (a0 : (List Nat)) (a1 : Int) (r : (Int × Int)) (h : g41 k a0 a1 = some r) : PureOk Try.prog 41 [.str a0, .int .i64 a1] (.tuple [.int .i64 r.1, .int .i64 r.2]) := by
 refine pure_of X41 (fun _ => rfl) Try.func41 (by decide +kernel) (by kernel_rfl) (t := g41 k a0 a1) ?_ h
 unfold g41
 refine oE (eE := [(0, .str a0), (1, .int .i64 a1)]) (by kernel_rfl) ?_
 let E1 : Env := [(15, .bool (decide (a1 < 0))), (14, .bool (decide (a1 < 0))), (13, .int .i64 a1), (5, .int .i64 0), (4, .int .i64 0), (0, .str a0), (1, .int .i64 a1)]
 refine oR 11 (p' := (atN 3 (ctl1 g41p1))) (eE := E1) (H' := (mkH [])) (by kernel_rfl) ?_
 refine oJ (f := fun (z7 : Bool) => if z7 then (some (((-1) : Int), (0 : Int))) else ((nthS a0 (fW .i64 (a1 + 1))).bind fun x1_3 => if (decide (x1_3 = 120)) then ((g79 k a0 a1).bind fun x2_2 => some (x2_2.1, x2_2.2)) else (if (decide (x1_3 = 94)) then ((g80 k a0 a1).bind fun x3_2 => some (x3_2.1, x3_2.2)) else (jn (fun (z8 : Bool) => if z8 then (g41_l9 k a0 a1 k 0 1) else (if (decide (x1_3 = 98)) then (some ((8 : Int), (2 : Int))) else (if (decide (x1_3 = 100)) then (some ((127 : Int), (2 : Int))) else (if (decide (x1_3 = 101)) then (some ((27 : Int), (2 : Int))) else (if (decide (x1_3 = 102)) then (some ((12 : Int), (2 : Int))) else (if (decide (x1_3 = 110)) then (some ((10 : Int), (2 : Int))) else (if (decide (x1_3 = 114)) then (some ((13 : Int), (2 : Int))) else (if (decide (x1_3 = 115)) then (some ((32 : Int), (2 : Int))) else (if (decide (x1_3 = 116)) then (some ((9 : Int), (2 : Int))) else (if (decide (x1_3 = 118)) then (some ((11 : Int), (2 : Int))) else ((g78 k a0 (fW .i64 (a1 + 1))).bind fun x4_3 => if (decide (x4_3.1 < 32)) then (some (((-1) : Int), (0 : Int))) else (some (x4_3.1, fW .i64 (x4_3.2 + 1)))))))))))))) (fun j8 => if (decide (48 ≤ x1_3)) then (j8 (decide (x1_3 ≤ 55))) else (j8 false)))))) g41p2 (fun (z7 : Bool) => [(0, .str a0), (1, .int .i64 a1), (33, .bool z7)]) (fun (z7 : Bool) => (mkH [])) (fun z7 => ?_) (fun j7 hj7 => ?_)
 ·refine oS 33 (b := z7) (by kernel_rfl) (fun hb => ?_) (fun hb => ?_)
  ·let E2 : Env := [(5, .int .i64 0), (4, .int .i64 (-1)), (33, .bool true), (0, .str a0), (1, .int .i64 a1), (33, .bool z7)]
   refine oR 7 (p' := .fin) (eE := E2) (H' := (mkH [])) (by kernel_rfl) ?_
   exact oT (r := (((-1) : Int), (0 : Int))) (xs := [.int .i64 (-1), .int .i64 0]) (v := .tuple [.int .i64 (-1), .int .i64 0]) (by kernel_rfl) (by kernel_rfl) (by kernel_rfl) (.pures (by kernel_rfl)) (by kernel_rfl)
  ·let E3 : Env := [(36, .int .i64 (fW .i64 (a1 + 1))), (35, .int .i64 a1), (34, .str a0), (33, .bool false), (0, .str a0), (1, .int .i64 a1), (33, .bool z7)]
   refine oR 7 (p' := (atN 3 (ctl1 g41p4))) (eE := E3) (H' := (mkH [])) (by kernel_rfl) ?_
   refine oH (fun (x1_3 : Int) => (.int .u8 x1_3, (mkH []))) (atN 4 (ctl1 g41p4)) (fun x1_3 => ((37, .int .u8 x1_3) :: E3)) (idxH (by kernel_rfl)) (fun _ => by kernel_rfl) (fun x1_3 hx1_3 => ?_)
   let E4 : Env := ((38, .bool (decide (x1_3 = 120))) :: (40, .bool (decide (x1_3 = 120))) :: (39, .int .u8 x1_3) :: (6, .int .u8 x1_3) :: (37, .int .u8 x1_3) :: E3)
   refine oR 10 (p' := g41p7) (eE := E4) (H' := (mkH [])) (by kernel_rfl) ?_
   refine oK [0, 1, 6, 38] (eE := [(0, .str a0), (1, .int .i64 a1), (6, .int .u8 x1_3), (38, .bool (decide (x1_3 = 120)))]) (by kernel_rfl) ?_
   refine oS 38 (b := decide (x1_3 = 120)) (by kernel_rfl) (fun hb => ?_) (fun hb => ?_)
   ·let E5 : Env := [(42, .int .i64 a1), (41, .str a0), (38, .bool true), (0, .str a0), (1, .int .i64 a1), (6, .int .u8 x1_3), (38, .bool (decide (x1_3 = 120)))]
    refine oR 5 (p' := (atN 2 (ctl1 g41p8))) (eE := E5) (H' := (mkH [])) (by kernel_rfl) ?_
    refine oC (fun (x2_2 : (Int × Int)) => .tuple [.int .i64 x2_2.1, .int .i64 x2_2.2]) (atN 3 (ctl1 g41p8)) (fun x2_2 => ((43, .tuple [.int .i64 x2_2.1, .int .i64 x2_2.2]) :: E5)) (fi := 79) (args := [.str a0, .int .i64 a1]) (by kernel_rfl) (by kernel_rfl) (fun _ => by kernel_rfl) (fun r h => g79_ok k a0 a1 r h) (fun _ => by kernel_rfl) (fun x2_2 hx2_2 => ?_)
    let E6 : Env := ((5, .int .i64 x2_2.2) :: (4, .int .i64 x2_2.1) :: (45, .int .i64 x2_2.2) :: (44, .int .i64 x2_2.1) :: (43, .tuple [.int .i64 x2_2.1, .int .i64 x2_2.2]) :: E5)
    refine oR 6 (p' := .fin) (eE := E6) (H' := (mkH [])) (by kernel_rfl) ?_
    exact oT (r := (x2_2.1, x2_2.2)) (xs := [.int .i64 x2_2.1, .int .i64 x2_2.2]) (v := .tuple [.int .i64 x2_2.1, .int .i64 x2_2.2]) (by kernel_rfl) (by kernel_rfl) (by kernel_rfl) (.pures (by kernel_rfl)) (by kernel_rfl)
   ·let E7 : Env := [(46, .bool (decide (x1_3 = 94))), (48, .bool (decide (x1_3 = 94))), (47, .int .u8 x1_3), (38, .bool false), (0, .str a0), (1, .int .i64 a1), (6, .int .u8 x1_3), (38, .bool (decide (x1_3 = 120)))]
    refine oR 7 (p' := g41p10) (eE := E7) (H' := (mkH [])) (by kernel_rfl) ?_
    refine oS 46 (b := decide (x1_3 = 94)) (by kernel_rfl) (fun hb => ?_) (fun hb => ?_)
    ·refine oR 5 (p' := (atN 2 (ctl1 g41p11))) (eE := ((50, .int .i64 a1) :: (49, .str a0) :: (46, .bool true) :: E7)) (H' := (mkH [])) (by kernel_rfl) ?_
     refine oC (fun (x3_2 : (Int × Int)) => .tuple [.int .i64 x3_2.1, .int .i64 x3_2.2]) (atN 3 (ctl1 g41p11)) (fun x3_2 => ((51, .tuple [.int .i64 x3_2.1, .int .i64 x3_2.2]) :: (50, .int .i64 a1) :: (49, .str a0) :: (46, .bool true) :: E7)) (fi := 80) (args := [.str a0, .int .i64 a1]) (by kernel_rfl) (by kernel_rfl) (fun _ => by kernel_rfl) (fun r h => g80_ok k a0 a1 r h) (fun _ => by kernel_rfl) (fun x3_2 hx3_2 => ?_)
     let E8 : Env := ((5, .int .i64 x3_2.2) :: (4, .int .i64 x3_2.1) :: (53, .int .i64 x3_2.2) :: (52, .int .i64 x3_2.1) :: (51, .tuple [.int .i64 x3_2.1, .int .i64 x3_2.2]) :: (50, .int .i64 a1) :: (49, .str a0) :: (46, .bool true) :: E7)
     refine oR 6 (p' := .fin) (eE := E8) (H' := (mkH [])) (by kernel_rfl) ?_
     exact oT (r := (x3_2.1, x3_2.2)) (xs := [.int .i64 x3_2.1, .int .i64 x3_2.2]) (v := .tuple [.int .i64 x3_2.1, .int .i64 x3_2.2]) (by kernel_rfl) (by kernel_rfl) (by kernel_rfl) (.pures (by kernel_rfl)) (by kernel_rfl)
    ·refine oR 6 (p' := (atN 3 (ctl1 g41p12))) (eE := ((57, .bool (decide (48 ≤ x1_3))) :: (56, .bool (decide (48 ≤ x1_3))) :: (55, .int .u8 x1_3) :: (46, .bool false) :: E7)) (H' := (mkH [])) (by kernel_rfl) ?_
     refine oJ (f := fun (z8 : Bool) => if z8 then (g41_l9 k a0 a1 k 0 1) else (if (decide (x1_3 = 98)) then (some ((8 : Int), (2 : Int))) else (if (decide (x1_3 = 100)) then (some ((127 : Int), (2 : Int))) else (if (decide (x1_3 = 101)) then (some ((27 : Int), (2 : Int))) else (if (decide (x1_3 = 102)) then (some ((12 : Int), (2 : Int))) else (if (decide (x1_3 = 110)) then (some ((10 : Int), (2 : Int))) else (if (decide (x1_3 = 114)) then (some ((13 : Int), (2 : Int))) else (if (decide (x1_3 = 115)) then (some ((32 : Int), (2 : Int))) else (if (decide (x1_3 = 116)) then (some ((9 : Int), (2 : Int))) else (if (decide (x1_3 = 118)) then (some ((11 : Int), (2 : Int))) else ((g78 k a0 (fW .i64 (a1 + 1))).bind fun x4_3 => if (decide (x4_3.1 < 32)) then (some (((-1) : Int), (0 : Int))) else (some (x4_3.1, fW .i64 (x4_3.2 + 1)))))))))))))) g41p13 (fun (z8 : Bool) => [(0, .str a0), (1, .int .i64 a1), (6, .int .u8 x1_3), (54, .bool z8)]) (fun (z8 : Bool) => (mkH [])) (fun z8 => ?_) (fun j8 hj8 => ?_)
     ·refine oS 54 (b := z8) (by kernel_rfl) (fun hb => ?_) (fun hb => ?_)
      ·let E9 : Env := [(8, .int .i64 1), (7, .int .i64 0), (54, .bool true), (0, .str a0), (1, .int .i64 a1), (6, .int .u8 x1_3), (54, .bool z8)]
       refine oR 9 (p' := g41p16) (eE := E9) (H' := (mkH [])) (by kernel_rfl) ?_
       refine oK [0, 1, 7, 8] (eE := [(0, .str a0), (1, .int .i64 a1), (7, .int .i64 0), (8, .int .i64 1)]) (by kernel_rfl) ?_
       exact (g41_l9_ok k a0 a1 k) 0 1
      ·let E18 : Env := [(54, .bool false), (0, .str a0), (1, .int .i64 a1), (6, .int .u8 x1_3), (54, .bool z8)]
       refine oR 5 (p' := (atN 0 (ctl1 g41p15))) (eE := E18) (H' := (mkH [])) (by kernel_rfl) ?_
       refine ok_range 93 (⟨#[98, 100, 101, 102, 110, 114, 115, 116, 118]⟩ : ByteArray) (by kernel_rfl) ?_
       refine okI_at (p' := (atN 1 (ctl1 g41p15))) (by kernel_rfl) ?_
       refine oI 3 (p' := g41p17) (eE := ((93, .top) :: E18)) (H' := (mkH [])) (by kernel_rfl) ?_
       refine okI_ent (p' := nav [0] g41p17) (by kernel_rfl) ?_
       refine oI 2 (p' := (atN 0 (ctl1 g41p19))) (eE := ((93, .top) :: E18)) (H' := (mkH [])) (by kernel_rfl) ?_
       refine okI_next 94 (by kernel_rfl) rfl 98 1 (by kernel_rfl) ?_
       refine okI_at (p' := (atN 1 (ctl1 g41p19))) (by kernel_rfl) ?_
       let E19 : Env := ((101, .bool (decide (x1_3 = 98))) :: (100, .int .u8 98) :: (99, .int .i32 98) :: (98, .int .u8 x1_3) :: (10, .int .i32 98) :: (9, .int .i64 0) :: (97, .int .i32 98) :: (96, .int .i64 0) :: (95, .bool true) :: (94, .tuple [.bool true, .int .i64 0, .int .i32 98]) :: (93, .top) :: E18)
       refine oI 20 (p' := g41p29) (eE := E19) (H' := (mkH [])) (by kernel_rfl) ?_
       refine okI_split 101 (b := decide (x1_3 = 98)) (by kernel_rfl) (fun hb => ?_) (fun hb => ?_)
       ·let E20 : Env := ((5, .int .i64 2) :: (4, .int .i64 8) :: (104, .int .i64 8) :: (103, .int .i64 0) :: (102, .agg [.int .i64 8, .int .i64 127, .int .i64 27, .int .i64 12, .int .i64 10, .int .i64 13, .int .i64 32, .int .i64 9, .int .i64 11]) :: (101, .bool true) :: E19)
        refine oI 10 (p' := .fin) (eE := E20) (H' := (mkH [])) (by kernel_rfl) ?_
        refine okI_drop ?_
        exact oT (r := ((8 : Int), (2 : Int))) (xs := [.int .i64 8, .int .i64 2]) (v := .tuple [.int .i64 8, .int .i64 2]) (by kernel_rfl) (by kernel_rfl) (by kernel_rfl) (.pures (by kernel_rfl)) (by kernel_rfl)
       ·refine oI 2 (p' := g41p17) (eE := ((101, .bool false) :: E19)) (H' := (mkH [])) (by kernel_rfl) ?_
        refine okI_ent (p' := nav [0] g41p17) (by kernel_rfl) ?_
        refine oI 2 (p' := (atN 0 (ctl1 g41p19))) (eE := ((101, .bool false) :: E19)) (H' := (mkH [])) (by kernel_rfl) ?_
        refine okI_next 94 (by kernel_rfl) rfl 100 1 (by kernel_rfl) ?_
        refine okI_at (p' := (atN 1 (ctl1 g41p19))) (by kernel_rfl) ?_
        let E21 : Env := ((101, .bool (decide (x1_3 = 100))) :: (100, .int .u8 100) :: (99, .int .i32 100) :: (98, .int .u8 x1_3) :: (10, .int .i32 100) :: (9, .int .i64 1) :: (97, .int .i32 100) :: (96, .int .i64 1) :: (95, .bool true) :: (94, .tuple [.bool true, .int .i64 1, .int .i32 100]) :: (101, .bool false) :: E19)
        refine oI 20 (p' := g41p29) (eE := E21) (H' := (mkH [])) (by kernel_rfl) ?_
        refine okI_split 101 (b := decide (x1_3 = 100)) (by kernel_rfl) (fun hb => ?_) (fun hb => ?_)
        ·let E22 : Env := ((5, .int .i64 2) :: (4, .int .i64 127) :: (104, .int .i64 127) :: (103, .int .i64 1) :: (102, .agg [.int .i64 8, .int .i64 127, .int .i64 27, .int .i64 12, .int .i64 10, .int .i64 13, .int .i64 32, .int .i64 9, .int .i64 11]) :: (101, .bool true) :: E21)
         refine oI 10 (p' := .fin) (eE := E22) (H' := (mkH [])) (by kernel_rfl) ?_
         refine okI_drop ?_
         exact oT (r := ((127 : Int), (2 : Int))) (xs := [.int .i64 127, .int .i64 2]) (v := .tuple [.int .i64 127, .int .i64 2]) (by kernel_rfl) (by kernel_rfl) (by kernel_rfl) (.pures (by kernel_rfl)) (by kernel_rfl)
        ·refine oI 2 (p' := g41p17) (eE := ((101, .bool false) :: E21)) (H' := (mkH [])) (by kernel_rfl) ?_
         refine okI_ent (p' := nav [0] g41p17) (by kernel_rfl) ?_
         refine oI 2 (p' := (atN 0 (ctl1 g41p19))) (eE := ((101, .bool false) :: E21)) (H' := (mkH [])) (by kernel_rfl) ?_
         refine okI_next 94 (by kernel_rfl) rfl 101 1 (by kernel_rfl) ?_
         refine okI_at (p' := (atN 1 (ctl1 g41p19))) (by kernel_rfl) ?_
         let E23 : Env := ((101, .bool (decide (x1_3 = 101))) :: (100, .int .u8 101) :: (99, .int .i32 101) :: (98, .int .u8 x1_3) :: (10, .int .i32 101) :: (9, .int .i64 2) :: (97, .int .i32 101) :: (96, .int .i64 2) :: (95, .bool true) :: (94, .tuple [.bool true, .int .i64 2, .int .i32 101]) :: (101, .bool false) :: E21)
         refine oI 20 (p' := g41p29) (eE := E23) (H' := (mkH [])) (by kernel_rfl) ?_
         refine okI_split 101 (b := decide (x1_3 = 101)) (by kernel_rfl) (fun hb => ?_) (fun hb => ?_)
         ·let E24 : Env := ((5, .int .i64 2) :: (4, .int .i64 27) :: (104, .int .i64 27) :: (103, .int .i64 2) :: (102, .agg [.int .i64 8, .int .i64 127, .int .i64 27, .int .i64 12, .int .i64 10, .int .i64 13, .int .i64 32, .int .i64 9, .int .i64 11]) :: (101, .bool true) :: E23)
          refine oI 10 (p' := .fin) (eE := E24) (H' := (mkH [])) (by kernel_rfl) ?_
          refine okI_drop ?_
          exact oT (r := ((27 : Int), (2 : Int))) (xs := [.int .i64 27, .int .i64 2]) (v := .tuple [.int .i64 27, .int .i64 2]) (by kernel_rfl) (by kernel_rfl) (by kernel_rfl) (.pures (by kernel_rfl)) (by kernel_rfl)
         ·refine oI 2 (p' := g41p17) (eE := ((101, .bool false) :: E23)) (H' := (mkH [])) (by kernel_rfl) ?_
          refine okI_ent (p' := nav [0] g41p17) (by kernel_rfl) ?_
          refine oI 2 (p' := (atN 0 (ctl1 g41p19))) (eE := ((101, .bool false) :: E23)) (H' := (mkH [])) (by kernel_rfl) ?_
          refine okI_next 94 (by kernel_rfl) rfl 102 1 (by kernel_rfl) ?_
          refine okI_at (p' := (atN 1 (ctl1 g41p19))) (by kernel_rfl) ?_
          let E25 : Env := ((101, .bool (decide (x1_3 = 102))) :: (100, .int .u8 102) :: (99, .int .i32 102) :: (98, .int .u8 x1_3) :: (10, .int .i32 102) :: (9, .int .i64 3) :: (97, .int .i32 102) :: (96, .int .i64 3) :: (95, .bool true) :: (94, .tuple [.bool true, .int .i64 3, .int .i32 102]) :: (101, .bool false) :: E23)
          refine oI 20 (p' := g41p29) (eE := E25) (H' := (mkH [])) (by kernel_rfl) ?_
          refine okI_split 101 (b := decide (x1_3 = 102)) (by kernel_rfl) (fun hb => ?_) (fun hb => ?_)
          ·let E26 : Env := ((5, .int .i64 2) :: (4, .int .i64 12) :: (104, .int .i64 12) :: (103, .int .i64 3) :: (102, .agg [.int .i64 8, .int .i64 127, .int .i64 27, .int .i64 12, .int .i64 10, .int .i64 13, .int .i64 32, .int .i64 9, .int .i64 11]) :: (101, .bool true) :: E25)
           refine oI 10 (p' := .fin) (eE := E26) (H' := (mkH [])) (by kernel_rfl) ?_
           refine okI_drop ?_
           exact oT (r := ((12 : Int), (2 : Int))) (xs := [.int .i64 12, .int .i64 2]) (v := .tuple [.int .i64 12, .int .i64 2]) (by kernel_rfl) (by kernel_rfl) (by kernel_rfl) (.pures (by kernel_rfl)) (by kernel_rfl)
          ·refine oI 2 (p' := g41p17) (eE := ((101, .bool false) :: E25)) (H' := (mkH [])) (by kernel_rfl) ?_
           refine okI_ent (p' := nav [0] g41p17) (by kernel_rfl) ?_
           refine oI 2 (p' := (atN 0 (ctl1 g41p19))) (eE := ((101, .bool false) :: E25)) (H' := (mkH [])) (by kernel_rfl) ?_
           refine okI_next 94 (by kernel_rfl) rfl 110 1 (by kernel_rfl) ?_
           refine okI_at (p' := (atN 1 (ctl1 g41p19))) (by kernel_rfl) ?_
           let E27 : Env := ((101, .bool (decide (x1_3 = 110))) :: (100, .int .u8 110) :: (99, .int .i32 110) :: (98, .int .u8 x1_3) :: (10, .int .i32 110) :: (9, .int .i64 4) :: (97, .int .i32 110) :: (96, .int .i64 4) :: (95, .bool true) :: (94, .tuple [.bool true, .int .i64 4, .int .i32 110]) :: (101, .bool false) :: E25)
           refine oI 20 (p' := g41p29) (eE := E27) (H' := (mkH [])) (by kernel_rfl) ?_
           refine okI_split 101 (b := decide (x1_3 = 110)) (by kernel_rfl) (fun hb => ?_) (fun hb => ?_)
           ·let E28 : Env := ((5, .int .i64 2) :: (4, .int .i64 10) :: (104, .int .i64 10) :: (103, .int .i64 4) :: (102, .agg [.int .i64 8, .int .i64 127, .int .i64 27, .int .i64 12, .int .i64 10, .int .i64 13, .int .i64 32, .int .i64 9, .int .i64 11]) :: (101, .bool true) :: E27)
            refine oI 10 (p' := .fin) (eE := E28) (H' := (mkH [])) (by kernel_rfl) ?_
            refine okI_drop ?_
            exact oT (r := ((10 : Int), (2 : Int))) (xs := [.int .i64 10, .int .i64 2]) (v := .tuple [.int .i64 10, .int .i64 2]) (by kernel_rfl) (by kernel_rfl) (by kernel_rfl) (.pures (by kernel_rfl)) (by kernel_rfl)
           ·refine oI 2 (p' := g41p17) (eE := ((101, .bool false) :: E27)) (H' := (mkH [])) (by kernel_rfl) ?_
            refine okI_ent (p' := nav [0] g41p17) (by kernel_rfl) ?_
            refine oI 2 (p' := (atN 0 (ctl1 g41p19))) (eE := ((101, .bool false) :: E27)) (H' := (mkH [])) (by kernel_rfl) ?_
            refine okI_next 94 (by kernel_rfl) rfl 114 1 (by kernel_rfl) ?_
            refine okI_at (p' := (atN 1 (ctl1 g41p19))) (by kernel_rfl) ?_
            let E29 : Env := ((101, .bool (decide (x1_3 = 114))) :: (100, .int .u8 114) :: (99, .int .i32 114) :: (98, .int .u8 x1_3) :: (10, .int .i32 114) :: (9, .int .i64 5) :: (97, .int .i32 114) :: (96, .int .i64 5) :: (95, .bool true) :: (94, .tuple [.bool true, .int .i64 5, .int .i32 114]) :: (101, .bool false) :: E27)
            refine oI 20 (p' := g41p29) (eE := E29) (H' := (mkH [])) (by kernel_rfl) ?_
            refine okI_split 101 (b := decide (x1_3 = 114)) (by kernel_rfl) (fun hb => ?_) (fun hb => ?_)
            ·let E30 : Env := ((5, .int .i64 2) :: (4, .int .i64 13) :: (104, .int .i64 13) :: (103, .int .i64 5) :: (102, .agg [.int .i64 8, .int .i64 127, .int .i64 27, .int .i64 12, .int .i64 10, .int .i64 13, .int .i64 32, .int .i64 9, .int .i64 11]) :: (101, .bool true) :: E29)
             refine oI 10 (p' := .fin) (eE := E30) (H' := (mkH [])) (by kernel_rfl) ?_
             refine okI_drop ?_
             exact oT (r := ((13 : Int), (2 : Int))) (xs := [.int .i64 13, .int .i64 2]) (v := .tuple [.int .i64 13, .int .i64 2]) (by kernel_rfl) (by kernel_rfl) (by kernel_rfl) (.pures (by kernel_rfl)) (by kernel_rfl)
            ·refine oI 2 (p' := g41p17) (eE := ((101, .bool false) :: E29)) (H' := (mkH [])) (by kernel_rfl) ?_
             refine okI_ent (p' := nav [0] g41p17) (by kernel_rfl) ?_
             refine oI 2 (p' := (atN 0 (ctl1 g41p19))) (eE := ((101, .bool false) :: E29)) (H' := (mkH [])) (by kernel_rfl) ?_
             refine okI_next 94 (by kernel_rfl) rfl 115 1 (by kernel_rfl) ?_
             refine okI_at (p' := (atN 1 (ctl1 g41p19))) (by kernel_rfl) ?_
             let E31 : Env := ((101, .bool (decide (x1_3 = 115))) :: (100, .int .u8 115) :: (99, .int .i32 115) :: (98, .int .u8 x1_3) :: (10, .int .i32 115) :: (9, .int .i64 6) :: (97, .int .i32 115) :: (96, .int .i64 6) :: (95, .bool true) :: (94, .tuple [.bool true, .int .i64 6, .int .i32 115]) :: (101, .bool false) :: E29)
             refine oI 20 (p' := g41p29) (eE := E31) (H' := (mkH [])) (by kernel_rfl) ?_
             refine okI_split 101 (b := decide (x1_3 = 115)) (by kernel_rfl) (fun hb => ?_) (fun hb => ?_)
             ·let E32 : Env := ((5, .int .i64 2) :: (4, .int .i64 32) :: (104, .int .i64 32) :: (103, .int .i64 6) :: (102, .agg [.int .i64 8, .int .i64 127, .int .i64 27, .int .i64 12, .int .i64 10, .int .i64 13, .int .i64 32, .int .i64 9, .int .i64 11]) :: (101, .bool true) :: E31)
              refine oI 10 (p' := .fin) (eE := E32) (H' := (mkH [])) (by kernel_rfl) ?_
              refine okI_drop ?_
              exact oT (r := ((32 : Int), (2 : Int))) (xs := [.int .i64 32, .int .i64 2]) (v := .tuple [.int .i64 32, .int .i64 2]) (by kernel_rfl) (by kernel_rfl) (by kernel_rfl) (.pures (by kernel_rfl)) (by kernel_rfl)
             ·refine oI 2 (p' := g41p17) (eE := ((101, .bool false) :: E31)) (H' := (mkH [])) (by kernel_rfl) ?_
              refine okI_ent (p' := nav [0] g41p17) (by kernel_rfl) ?_
              refine oI 2 (p' := (atN 0 (ctl1 g41p19))) (eE := ((101, .bool false) :: E31)) (H' := (mkH [])) (by kernel_rfl) ?_
              refine okI_next 94 (by kernel_rfl) rfl 116 1 (by kernel_rfl) ?_
              refine okI_at (p' := (atN 1 (ctl1 g41p19))) (by kernel_rfl) ?_
              let E33 : Env := ((101, .bool (decide (x1_3 = 116))) :: (100, .int .u8 116) :: (99, .int .i32 116) :: (98, .int .u8 x1_3) :: (10, .int .i32 116) :: (9, .int .i64 7) :: (97, .int .i32 116) :: (96, .int .i64 7) :: (95, .bool true) :: (94, .tuple [.bool true, .int .i64 7, .int .i32 116]) :: (101, .bool false) :: E31)
              refine oI 20 (p' := g41p29) (eE := E33) (H' := (mkH [])) (by kernel_rfl) ?_
              refine okI_split 101 (b := decide (x1_3 = 116)) (by kernel_rfl) (fun hb => ?_) (fun hb => ?_)
              ·let E34 : Env := ((5, .int .i64 2) :: (4, .int .i64 9) :: (104, .int .i64 9) :: (103, .int .i64 7) :: (102, .agg [.int .i64 8, .int .i64 127, .int .i64 27, .int .i64 12, .int .i64 10, .int .i64 13, .int .i64 32, .int .i64 9, .int .i64 11]) :: (101, .bool true) :: E33)
               refine oI 10 (p' := .fin) (eE := E34) (H' := (mkH [])) (by kernel_rfl) ?_
               refine okI_drop ?_
               exact oT (r := ((9 : Int), (2 : Int))) (xs := [.int .i64 9, .int .i64 2]) (v := .tuple [.int .i64 9, .int .i64 2]) (by kernel_rfl) (by kernel_rfl) (by kernel_rfl) (.pures (by kernel_rfl)) (by kernel_rfl)
              ·refine oI 2 (p' := g41p17) (eE := ((101, .bool false) :: E33)) (H' := (mkH [])) (by kernel_rfl) ?_
               refine okI_ent (p' := nav [0] g41p17) (by kernel_rfl) ?_
               refine oI 2 (p' := (atN 0 (ctl1 g41p19))) (eE := ((101, .bool false) :: E33)) (H' := (mkH [])) (by kernel_rfl) ?_
               refine okI_next 94 (by kernel_rfl) rfl 118 1 (by kernel_rfl) ?_
               refine okI_at (p' := (atN 1 (ctl1 g41p19))) (by kernel_rfl) ?_
               let E35 : Env := ((101, .bool (decide (x1_3 = 118))) :: (100, .int .u8 118) :: (99, .int .i32 118) :: (98, .int .u8 x1_3) :: (10, .int .i32 118) :: (9, .int .i64 8) :: (97, .int .i32 118) :: (96, .int .i64 8) :: (95, .bool true) :: (94, .tuple [.bool true, .int .i64 8, .int .i32 118]) :: (101, .bool false) :: E33)
               refine oI 20 (p' := g41p29) (eE := E35) (H' := (mkH [])) (by kernel_rfl) ?_
               refine okI_split 101 (b := decide (x1_3 = 118)) (by kernel_rfl) (fun hb => ?_) (fun hb => ?_)
               ·let E36 : Env := ((5, .int .i64 2) :: (4, .int .i64 11) :: (104, .int .i64 11) :: (103, .int .i64 8) :: (102, .agg [.int .i64 8, .int .i64 127, .int .i64 27, .int .i64 12, .int .i64 10, .int .i64 13, .int .i64 32, .int .i64 9, .int .i64 11]) :: (101, .bool true) :: E35)
                refine oI 10 (p' := .fin) (eE := E36) (H' := (mkH [])) (by kernel_rfl) ?_
                refine okI_drop ?_
                exact oT (r := ((11 : Int), (2 : Int))) (xs := [.int .i64 11, .int .i64 2]) (v := .tuple [.int .i64 11, .int .i64 2]) (by kernel_rfl) (by kernel_rfl) (by kernel_rfl) (.pures (by kernel_rfl)) (by kernel_rfl)
               ·refine oI 2 (p' := g41p17) (eE := ((101, .bool false) :: E35)) (H' := (mkH [])) (by kernel_rfl) ?_
                refine okI_ent (p' := nav [0] g41p17) (by kernel_rfl) ?_
                refine oI 2 (p' := (atN 0 (ctl1 g41p19))) (eE := ((101, .bool false) :: E35)) (H' := (mkH [])) (by kernel_rfl) ?_
                refine okI_over 94 (by kernel_rfl) rfl ?_
                refine okI_drop ?_
                refine ok_at (p' := (atN 1 (ctl1 g41p19))) (by kernel_rfl) ?_
                refine oR 3 (p' := g41p21) (eE := ((95, .bool false) :: (94, .tuple [.bool false]) :: (101, .bool false) :: E35)) (H' := (mkH [])) (by kernel_rfl) ?_
                refine oK [0, 1, 6, 94, 95] (eE := [(0, .str a0), (1, .int .i64 a1), (6, .int .u8 x1_3), (94, .tuple [.bool false]), (95, .bool false)]) (by kernel_rfl) ?_
                let E37 : Env := [(108, .int .i64 (fW .i64 (a1 + 1))), (107, .int .i64 a1), (106, .str a0), (0, .str a0), (1, .int .i64 a1), (6, .int .u8 x1_3), (94, .tuple [.bool false]), (95, .bool false)]
                refine oR 7 (p' := (atN 3 (ctl1 g41p25))) (eE := E37) (H' := (mkH [])) (by kernel_rfl) ?_
                refine oC (fun (x4_3 : (Int × Int)) => .tuple [.int .i64 x4_3.1, .int .i64 x4_3.2]) (atN 4 (ctl1 g41p25)) (fun x4_3 => ((109, .tuple [.int .i64 x4_3.1, .int .i64 x4_3.2]) :: E37)) (fi := 78) (args := [.str a0, .int .i64 (fW .i64 (a1 + 1))]) (by kernel_rfl) (by kernel_rfl) (fun _ => by kernel_rfl) (fun r h => g78_ok k a0 (fW .i64 (a1 + 1)) r h) (fun _ => by kernel_rfl) (fun x4_3 hx4_3 => ?_)
                let E38 : Env := ((12, .int .i64 x4_3.2) :: (11, .int .i64 x4_3.1) :: (111, .int .i64 x4_3.2) :: (110, .int .i64 x4_3.1) :: (105, .tuple [.int .i64 x4_3.1, .int .i64 x4_3.2]) :: (109, .tuple [.int .i64 x4_3.1, .int .i64 x4_3.2]) :: E37)
                refine oR 8 (p' := g41p28) (eE := E38) (H' := (mkH [])) (by kernel_rfl) ?_
                refine oK [11, 12] (eE := [(11, .int .i64 x4_3.1), (12, .int .i64 x4_3.2)]) (by kernel_rfl) ?_
                refine oR 4 (p' := g41p30) (eE := [(113, .bool (decide (x4_3.1 < 32))), (112, .int .i64 x4_3.1), (11, .int .i64 x4_3.1), (12, .int .i64 x4_3.2)]) (H' := (mkH [])) (by kernel_rfl) ?_
                refine oS 113 (b := decide (x4_3.1 < 32)) (by kernel_rfl) (fun hb => ?_) (fun hb => ?_)
                ·let E39 : Env := [(5, .int .i64 0), (4, .int .i64 (-1)), (113, .bool true), (113, .bool (decide (x4_3.1 < 32))), (112, .int .i64 x4_3.1), (11, .int .i64 x4_3.1), (12, .int .i64 x4_3.2)]
                 refine oR 7 (p' := .fin) (eE := E39) (H' := (mkH [])) (by kernel_rfl) ?_
                 exact oT (r := (((-1) : Int), (0 : Int))) (xs := [.int .i64 (-1), .int .i64 0]) (v := .tuple [.int .i64 (-1), .int .i64 0]) (by kernel_rfl) (by kernel_rfl) (by kernel_rfl) (.pures (by kernel_rfl)) (by kernel_rfl)
                ·let E40 : Env := [(5, .int .i64 (fW .i64 (x4_3.2 + 1))), (4, .int .i64 x4_3.1), (116, .int .i64 (fW .i64 (x4_3.2 + 1))), (115, .int .i64 x4_3.2), (114, .int .i64 x4_3.1), (113, .bool false), (113, .bool (decide (x4_3.1 < 32))), (112, .int .i64 x4_3.1), (11, .int .i64 x4_3.1), (12, .int .i64 x4_3.2)]
                 refine oR 11 (p' := .fin) (eE := E40) (H' := (mkH [])) (by kernel_rfl) ?_
                 exact oT (r := (x4_3.1, fW .i64 (x4_3.2 + 1))) (xs := [.int .i64 x4_3.1, .int .i64 (fW .i64 (x4_3.2 + 1))]) (v := .tuple [.int .i64 x4_3.1, .int .i64 (fW .i64 (x4_3.2 + 1))]) (by kernel_rfl) (by kernel_rfl) (by kernel_rfl) (.pures (by kernel_rfl)) (by kernel_rfl)
     ·refine oS 57 (b := decide (48 ≤ x1_3)) (by kernel_rfl) (fun hb => ?_) (fun hb => ?_)
      ·let E41 : Env := ((54, .bool (decide (x1_3 ≤ 55))) :: (60, .bool (decide (x1_3 ≤ 55))) :: (59, .bool (decide (x1_3 ≤ 55))) :: (58, .int .u8 x1_3) :: (57, .bool true) :: (57, .bool (decide (48 ≤ x1_3))) :: (56, .bool (decide (48 ≤ x1_3))) :: (55, .int .u8 x1_3) :: (46, .bool false) :: E7)
       refine oR 5 (p' := g41p13) (eE := E41) (H' := (mkH [])) (by kernel_rfl) ?_
       refine oK [0, 1, 6, 54] (eE := [(0, .str a0), (1, .int .i64 a1), (6, .int .u8 x1_3), (54, .bool (decide (x1_3 ≤ 55)))]) (by kernel_rfl) ?_
       exact hj8 (decide (x1_3 ≤ 55))
      ·let E42 : Env := ((54, .bool false) :: (60, .bool false) :: (59, .tuple []) :: (58, .tuple []) :: (57, .bool false) :: (57, .bool (decide (48 ≤ x1_3))) :: (56, .bool (decide (48 ≤ x1_3))) :: (55, .int .u8 x1_3) :: (46, .bool false) :: E7)
       refine oR 5 (p' := g41p13) (eE := E42) (H' := (mkH [])) (by kernel_rfl) ?_
       refine oK [0, 1, 6, 54] (eE := [(0, .str a0), (1, .int .i64 a1), (6, .int .u8 x1_3), (54, .bool false)]) (by kernel_rfl) ?_
       exact hj8 false
 ·refine oS 15 (b := decide (a1 < 0)) (by kernel_rfl) (fun hb => ?_) (fun hb => ?_)
  ·let E43 : Env := ((33, .bool true) :: (32, .tuple []) :: (31, .tuple []) :: (30, .tuple []) :: (29, .tuple []) :: (28, .tuple []) :: (27, .bool true) :: (26, .bool true) :: (25, .tuple []) :: (24, .tuple []) :: (23, .tuple []) :: (22, .tuple []) :: (21, .bool true) :: (20, .bool true) :: (19, .tuple []) :: (18, .tuple []) :: (17, .tuple []) :: (16, .tuple []) :: (15, .bool true) :: E1)
   refine oR 19 (p' := g41p2) (eE := E43) (H' := (mkH [])) (by kernel_rfl) ?_
   refine oK [0, 1, 33] (eE := [(0, .str a0), (1, .int .i64 a1), (33, .bool true)]) (by kernel_rfl) ?_
   exact hj7 true
  ·let E44 : Env := ((21, .bool (decide ((a0.length : Int) ≤ a1))) :: (20, .bool (decide ((a0.length : Int) ≤ a1))) :: (19, .bool (decide ((a0.length : Int) ≤ a1))) :: (18, .int .i64 (a0.length : Int)) :: (17, .str a0) :: (16, .int .i64 a1) :: (15, .bool false) :: E1)
   refine oR 6 (p' := (atN 9 (ctl1 g41p1))) (eE := E44) (H' := (mkH [])) (by kernel_rfl) ?_
   refine oS 21 (b := decide ((a0.length : Int) ≤ a1)) (by kernel_rfl) (fun hb => ?_) (fun hb => ?_)
   ·let E45 : Env := ((33, .bool true) :: (32, .tuple []) :: (31, .tuple []) :: (30, .tuple []) :: (29, .tuple []) :: (28, .tuple []) :: (27, .bool true) :: (26, .bool true) :: (25, .tuple []) :: (24, .tuple []) :: (23, .tuple []) :: (22, .tuple []) :: (21, .bool true) :: E44)
    refine oR 13 (p' := g41p2) (eE := E45) (H' := (mkH [])) (by kernel_rfl) ?_
    refine oK [0, 1, 33] (eE := [(0, .str a0), (1, .int .i64 a1), (33, .bool true)]) (by kernel_rfl) ?_
    exact hj7 true
   ·refine oR 2 (p' := (atN 11 (ctl1 g41p1))) (eE := ((23, .int .i64 a1) :: (22, .str a0) :: (21, .bool false) :: E44)) (H' := (mkH [])) (by kernel_rfl) ?_
    refine oH (fun (x0_11 : Int) => (.int .u8 x0_11, (mkH []))) (atN 12 (ctl1 g41p1)) (fun x0_11 => ((24, .int .u8 x0_11) :: (23, .int .i64 a1) :: (22, .str a0) :: (21, .bool false) :: E44)) (idxH (by kernel_rfl)) (fun _ => by kernel_rfl) (fun x0_11 hx0_11 => ?_)
    let E46 : Env := ((27, .bool (!decide (x0_11 = 92))) :: (26, .bool (!decide (x0_11 = 92))) :: (25, .bool (!decide (x0_11 = 92))) :: (24, .int .u8 x0_11) :: (23, .int .i64 a1) :: (22, .str a0) :: (21, .bool false) :: E44)
    refine oR 3 (p' := (atN 15 (ctl1 g41p1))) (eE := E46) (H' := (mkH [])) (by kernel_rfl) ?_
    refine oS 27 (b := !decide (x0_11 = 92)) (by kernel_rfl) (fun hb => ?_) (fun hb => ?_)
    ·let E47 : Env := ((33, .bool true) :: (32, .tuple []) :: (31, .tuple []) :: (30, .tuple []) :: (29, .tuple []) :: (28, .tuple []) :: (27, .bool true) :: E46)
     refine oR 7 (p' := g41p2) (eE := E47) (H' := (mkH [])) (by kernel_rfl) ?_
     refine oK [0, 1, 33] (eE := [(0, .str a0), (1, .int .i64 a1), (33, .bool true)]) (by kernel_rfl) ?_
     exact hj7 true
    ·let E48 : Env := ((33, .bool (decide ((a0.length : Int) ≤ fW .i64 (a1 + 1)))) :: (32, .bool (decide ((a0.length : Int) ≤ fW .i64 (a1 + 1)))) :: (31, .int .i64 (a0.length : Int)) :: (30, .str a0) :: (29, .int .i64 (fW .i64 (a1 + 1))) :: (28, .int .i64 a1) :: (27, .bool false) :: E46)
     refine oR 7 (p' := g41p2) (eE := E48) (H' := (mkH [])) (by kernel_rfl) ?_
     refine oK [0, 1, 33] (eE := [(0, .str a0), (1, .int .i64 a1), (33, .bool (decide ((a0.length : Int) ≤ fW .i64 (a1 + 1))))]) (by kernel_rfl) ?_
     exact hj7 (decide ((a0.length : Int) ≤ fW .i64 (a1 + 1)))
end
end Go.Proofs.Ytabhkocokojddaa.Am
set_option maxRecDepth 100000
set_option linter.unusedVariables false
namespace Go.Proofs.Ytabhkocokojddaa.Am
noncomputable section
open Go
def X81 : Fx (Int × Int) := ⟨Try.prog, cx, Try.f81, fun r => .tuple [.int .i64 r.1, .int .i64 r.2], 0, fun _ => H0, cxTi, cxOrd⟩
def g81p0 : Pt := nav [0] (bodyAt Try.f81)
def g81p1 : Pt := nav [0, 0, 0] g81p0
def g81p2 : Pt := nav [0, 0, 0, 0, 0] g81p1
def g81p3 : Pt := nav [0, 0, 0] g81p2
def g81p4 : Pt := nav [0, 0] g81p3
def g81p5 : Pt := nav [1, 0, 0, 0] g81p4
def g81p7 : Pt := nav [0, 0] g81p5
def g81_l2 (k : Nat)  (a0 : (List Nat)) (a1 : Int) (a2 : Int) (a3 : Int) (n : Nat) : Int → Int → Option (Int × Int) :=
 Nat.rec (motive := fun _ => Int → Int → Option (Int × Int)) (fun _ _ => none) (fun _ ih => fun (y2_0 : Int) (y2_1 : Int) => jn (fun (z3 : Bool × Int × Int) => if z3.1 then ((nthS a0 (fW .i64 (a1 + z3.2.2))).bind fun x1_7 => (g77 k x1_7 a2).bind fun x1_9 => ih (fW .i64 (fW .i64 (z3.2.1 * a2) + x1_9)) (fW .i64 (z3.2.2 + 1))) else (some (z3.2.1, z3.2.2))) (fun j3 => if (decide (y2_1 < a3)) then (if (decide (fW .i64 (a1 + y2_1) < (a0.length : Int))) then ((nthS a0 (fW .i64 (a1 + y2_1))).bind fun x0_16 => (g77 k x0_16 a2).bind fun x0_18 => j3 (decide (0 ≤ x0_18), y2_0, y2_1)) else (j3 (false, y2_0, y2_1))) else (j3 (false, y2_0, y2_1)))) n
theorem g81_l2_s (k : Nat)  (a0 : (List Nat)) (a1 : Int) (a2 : Int) (a3 : Int) (n : Nat) (y2_0 : Int) (y2_1 : Int) : g81_l2 k a0 a1 a2 a3 (n + 1) y2_0 y2_1 = (jn (fun (z3 : Bool × Int × Int) => if z3.1 then ((nthS a0 (fW .i64 (a1 + z3.2.2))).bind fun x1_7 => (g77 k x1_7 a2).bind fun x1_9 => (g81_l2 k a0 a1 a2 a3 n) (fW .i64 (fW .i64 (z3.2.1 * a2) + x1_9)) (fW .i64 (z3.2.2 + 1))) else (some (z3.2.1, z3.2.2))) (fun j3 => if (decide (y2_1 < a3)) then (if (decide (fW .i64 (a1 + y2_1) < (a0.length : Int))) then ((nthS a0 (fW .i64 (a1 + y2_1))).bind fun x0_16 => (g77 k x0_16 a2).bind fun x0_18 => j3 (decide (0 ≤ x0_18), y2_0, y2_1)) else (j3 (false, y2_0, y2_1))) else (j3 (false, y2_0, y2_1)))) := rfl
end
end Go.Proofs.Ytabhkocokojddaa.Am
