/- LawScanAsks, part 5: whatever the input, the law comes out true: our texts, joined by a tool, without what the claim does not name. -/
import Derived.Test.YtokcjgjgojlhbaaPkScanAsks4
set_option maxRecDepth 100000
set_option linter.unusedVariables false
set_option linter.unusedSimpArgs false
namespace Go.Proofs.Ytokcjgjgojlhbaa.Am
open Go
theorem quoted_l {k : Nat} (hk : 6 ≤ k) {s : List Nat} (hs : By s) (hl : Sz s) {q : Nat} {t : List Nat} (hq : s = q :: t) (hq2 : q = 39 ∨ q = 34) : ∀ (d f i : Nat), s.length ≤ i + d → d < f → i ≤ s.length → g34_l4 k s f (i : Int) = some ((bmp i (quoN q d (s.drop i)) : Nat) : Int) := by
 have n0 : nthS s 0 = some (q : Int) := nthX (i := 0) rfl (by rw [List.drop_zero]; exact hq)
 have hl' := hl
 unfold Sz at hl
 intro d
 induction d with
 | zero =>
  intro f i h1 hf h2
  obtain ⟨f, rfl⟩ : ∃ f', f = f' + 1 := ⟨f - 1, by omega⟩
  have sh := shown_at hk hs hl' i
  rw [dnil (by omega : s.length ≤ i)] at sh ⊢
  rw [g34_l4_s]
  refine bS (by (try simp (disch := omega) only [fwI]); exact sh) ?_
  rfl
 | succ d ih =>
  intro f i h1 hf h2
  obtain ⟨f, rfl⟩ : ∃ f', f = f' + 1 := ⟨f - 1, by omega⟩
  have sh := shown_at hk hs hl' i
  rw [g34_l4_s]
  rcases Nat.lt_or_ge i s.length with hi | hi
  ·obtain ⟨c, r, hc, hr, hm, hrl⟩ := dcons hi
   have nc := nthX (x := (i : Int)) rfl hc
   refine bS (by (try simp (disch := omega) only [fwI]); exact sh) ?_
   rw [hc]
   simp only [quoN]
   by_cases hcq : c = q
   ·subst hcq
    have s1 : shwN (c :: r) = 1 := by
     unfold shwN
     rcases hq2 with rfl | rfl
     ·rw [dec_ascii r (by decide)]; rfl
     ·rw [dec_ascii r (by decide)]; rfl
    rw [s1, if_pos rfl]
    refine iF rfl ?_
    refine bS (by (try simp (disch := omega) only [fwI]); exact nc) ?_
    refine bS (by (try simp (disch := omega) only [fwI]); exact n0) ?_
    refine iT (dT rfl) ?_
    rw [fw_s (by omega)]
    unfold bmp
    rfl
   ·rw [if_neg hcq]
    by_cases h92 : c = 92
    ·subst h92
     have s1 : shwN (92 :: r) = 1 := by unfold shwN; rw [dec_ascii r (by decide)]; rfl
     rw [s1, if_pos rfl]
     refine iF rfl ?_
     refine bS (by (try simp (disch := omega) only [fwI]); exact nc) ?_
     refine bS (by (try simp (disch := omega) only [fwI]); exact n0) ?_
     refine iF (dF (by omega)) ?_
     refine bS (by (try simp (disch := omega) only [fwI]); exact nc) ?_
     have sh2 := shown_at hk hs hl' (i + 1)
     rw [hr] at sh2
     have wl := shwN_le r
     by_cases hz : shwN r = 0
     ·rw [if_pos hz]
      refine jC fun j => ?_
      refine iT rfl ?_
      rw [fw_s (by omega)]
      refine bS (by (try simp (disch := omega) only [fwI]); exact sh2) ?_
      refine iT (dT (by omega)) ?_
      unfold bmp; rfl
     ·rw [if_neg hz]
      refine (jS (v := (((i + 1 : Nat) : Int), (shwN r : Int))) (fun j => ?_)).trans ?_
      ·refine iT rfl ?_
       rw [fw_s (by omega)]
       refine bS (by (try simp (disch := omega) only [fwI]); exact sh2) ?_
       refine iF (dF (by omega)) ?_
       rfl
      ·show g34_l4 k s f (fwrap .i64 (((i + 1 : Nat) : Int) + (shwN r : Int))) = _
       rw [fw_a (by omega) (by omega)]
       refine (ih f (i + 1 + shwN r) (by omega) (by omega) (by omega)).trans (sn ?_)
       rw [← List.drop_drop, hr]
       unfold bmp
       repeat' split
       all_goals omega
    ·rw [if_neg h92]
     have wl := shwN_le (c :: r)
     simp only [List.length_cons] at wl
     by_cases hz : shwN (c :: r) = 0
     ·rw [if_pos hz]
      refine iT (dT (by omega)) ?_
      unfold bmp; rfl
     ·rw [if_neg hz]
      refine iF (dF (by omega)) ?_
      refine bS (by (try simp (disch := omega) only [fwI]); exact nc) ?_
      refine bS (by (try simp (disch := omega) only [fwI]); exact n0) ?_
      refine iF (dF (by omega)) ?_
      refine bS (by (try simp (disch := omega) only [fwI]); exact nc) ?_
      refine (jS (v := ((i : Int), (shwN (c :: r) : Int))) (fun j => ?_)).trans ?_
      ·refine iF (dF (by omega)) ?_
       rfl
      ·show g34_l4 k s f (fwrap .i64 ((i : Int) + (shwN (c :: r) : Int))) = _
       rw [fw_a (by omega) (by omega)]
       refine (ih f (i + shwN (c :: r)) (by omega) (by omega) (by omega)).trans (sn ?_)
       rw [← List.drop_drop, hc]
       unfold bmp
       repeat' split
       all_goals omega
  ·rw [dnil hi] at sh ⊢
   refine bS (by (try simp (disch := omega) only [fwI]); exact sh) ?_
   rfl
theorem quoted_at {k : Nat} {s : List Nat} (hk : s.length + 6 ≤ k) (hs : By s) (hl : Sz s) {q : Nat} {t : List Nat} (hq : s = q :: t) (hq2 : q = 39 ∨ q = 34) : g34 k s = some ((qtdN s : Nat) : Int) := by
 have := quoted_l (k := k) (by omega) hs hl hq hq2 t.length k 1 (by rw [hq, List.length_cons]; omega) (by rw [hq, List.length_cons] at hk; omega) (by rw [hq, List.length_cons]; omega)
 refine this.trans (sn ?_)
 subst hq
 rfl
theorem char_at {k : Nat} (hk : 10 ≤ k) {s : List Nat} (hs : By s) (hl : Sz s) {a : Nat} {t : List Nat} (hq : s = a :: t) : g35 k s = some ((chrN s : Nat) : Int) := by
 have hl' := hl
 unfold Sz at hl
 unfold g35
 cases t with
 | nil =>
  subst hq
  refine (jS (v := false) (fun j => rfl)).trans ?_
  refine iF rfl ?_
  have sh := shown_at (k := k) (by omega) hs hl' 1
  refine bS (by (try simp (disch := omega) only [fwI]); exact sh) ?_
  rfl
 | cons c r =>
  have d1 : s.drop 1 = c :: r := by rw [hq]; rfl
  have n1 : nthS s 1 = some (c : Int) := nthX (i := 1) rfl d1
  have len : s.length = r.length + 2 := by rw [hq]; rfl
  have es : chrN s = if c = 92 then (if 0 < (escN (c :: r)).2 then (escN (c :: r)).2.toNat + 1 else 0) else if shwN (c :: r) ≠ 0 ∧ c ≠ 32 then shwN (c :: r) + 1 else 0 := by rw [hq]; rfl
  rw [es]
  by_cases h92 : c = 92
  ·rw [if_pos h92]
   refine (jS (v := true) (fun j => ?_)).trans ?_
   ·refine iT (by first | (simp (disch := omega) only [↓reduceIte, ↓jn, gsL]; done) | rfl) ?_
    refine bS (by (try simp (disch := omega) only [fwI]); exact n1) ?_
    rw [dT (by omega)]
   ·refine iT rfl ?_
    have ea := escape_at hk hs hl' 1
    rw [d1] at ea
    have ea' : g52 k s 1 = some (escN (c :: r)) := ea
    refine bS (by (try simp (disch := omega) only [fwI]); exact ea') ?_
    rcases escN_cases (c :: r) with h | ⟨v, n, h, h2, h3⟩
    ·rw [h]; rfl
    ·rw [h]
     simp only [List.length_cons] at h3
     have : (0 : Int) < ((n : Nat) : Int) := by omega
     simp only []
     rw [if_pos this]
     refine iT (dT this) ?_
     rw [fw_s (by omega), Int.toNat_natCast]
  ·rw [if_neg h92]
   refine (jS (v := false) (fun j => ?_)).trans ?_
   ·refine iT (by first | (simp (disch := omega) only [↓reduceIte, ↓jn, gsL]; done) | rfl) ?_
    refine bS (by (try simp (disch := omega) only [fwI]); exact n1) ?_
    rw [dF (by omega)]
   ·refine iF rfl ?_
    have sh := shown_at (k := k) (by omega) hs hl' 1
    rw [d1] at sh
    have sh' : g51 k s 1 = some ((shwN (c :: r) : Nat) : Int) := sh
    have wl := shwN_le (c :: r)
    refine bS (by (try simp (disch := omega) only [fwI]); exact sh') ?_
    by_cases hz : shwN (c :: r) = 0
    ·refine (jS (v := false) (fun j => ?_)).trans ?_
     ·refine iF (by first | (simp (disch := omega) only [↓reduceIte, ↓jn, gsL]; done) | rfl) ?_
      rfl
     ·rw [if_neg (show ¬ (shwN (c :: r) ≠ 0 ∧ c ≠ 32) from fun h => h.1 hz)]; rfl
    ·refine (jS (v := !decide (c = 32)) (fun j => ?_)).trans ?_
     ·refine iT (by first | (simp (disch := omega) only [↓reduceIte, ↓jn, gsL]; done) | rfl) ?_
      refine bS (by (try simp (disch := omega) only [fwI]); exact n1) ?_
      congr 2
      rw [Bool.eq_iff_iff]; simp; omega
     ·by_cases h32 : c = 32
      ·rw [decide_eq_true h32, if_neg (show ¬ (shwN (c :: r) ≠ 0 ∧ c ≠ 32) from fun h => h.2 h32)]; rfl
      ·rw [decide_eq_false h32, if_pos (show shwN (c :: r) ≠ 0 ∧ c ≠ 32 from ⟨hz, h32⟩)]
       refine iT rfl ?_
       rw [fw_s (by omega)]
theorem nth_hd {s : List Nat} {i : Nat} (h : i < s.length) : ∃ c r, s.drop i = c :: r ∧ nthS s (i : Int) = some (c : Int) ∧ c ∈ s := by
 obtain ⟨c, r, hc, -, hm, -⟩ := dcons h
 exact ⟨c, r, hc, nthX rfl hc, hm⟩
theorem number_at {k : Nat} {s : List Nat} (hk : s.length < k) (hk3 : 4 ≤ k) (hs : By s) (hl : Sz s) : g38 k s = some (((numN s).1 : Int), ((numN s).2 : Int)) := by
 have hl' := hl
 unfold Sz at hl
 have fin : ∀ (n kind : Nat), n ≤ s.length → jn (fun (z7 : Bool) => if z7 then (some ((0 : Int), (0 : Int))) else (some ((n : Int), (kind : Int)))) (fun j7 => if (decide ((n : Int) < (s.length : Int))) then ((nthS s (n : Int)).bind fun x4_7 => (g58 k x4_7).bind fun x4_8 => j7 x4_8) else (j7 false)) = some (((endN s n kind).1 : Int), ((endN s n kind).2 : Int)) := by
  intro n kind hn
  unfold endN
  rcases Nat.lt_or_ge n s.length with h | h
  ·obtain ⟨c, r, hc, nc, hm⟩ := nth_hd h
   rw [hc]
   refine (jS (v := inrN c) (fun j => ?_)).trans ?_
   ·refine iT (by first | (simp (disch := omega) only [↓reduceIte, ↓jn, gsL]; done) | rfl) ?_
    refine bS (by (try simp (disch := omega) only [fwI]); exact nc) ?_
    refine bS (by (try simp (disch := omega) only [fwI]); exact inner_at58 k (hs c hm)) ?_
    rfl
   ·simp only []
    cases inrN c <;> rfl
  ·rw [dnil h]
   refine (jS (v := false) (fun j => ?_)).trans ?_
   ·simp (disch := omega) only [↓reduceIte, ↓jn, gsL]
   ·rfl
 unfold g38
 refine bS (by (try simp (disch := omega) only [fwI]); exact part_at hk hs hl') ?_
 have pl := partN_le s
 have wl := wholeN_le s
 unfold numN
 by_cases h0 : partN s = 0
 ·rw [if_pos h0]
  by_cases hh : hashN s (wholeN s) = true
  ·rw [if_pos hh]
   refine jC fun j => ?_
   refine iT (by first | (simp (disch := omega) only [↓reduceIte, ↓jn, gsL]; done) | rfl) ?_
   refine bS (by (try simp (disch := omega) only [fwI]); exact whole_at hk hk3 hs hl') ?_
   refine bS (by (try simp (disch := omega) only [fwI]); exact front_at hk hk3 hs hl') ?_
   refine (jS (v := true) (fun j => ?_)).trans rfl
   unfold hashN at hh
   split at hh
   ·rename_i c r hc
    have nc := nthX (x := (wholeN s : Int)) rfl hc
    have dl := drop_len hc
    rw [Bool.and_eq_true, decide_eq_true_eq, Bool.or_eq_true, decide_eq_true_eq, decide_eq_true_eq] at hh
    obtain ⟨rfl, h1⟩ := hh
    refine iT (by first | (simp (disch := omega) only [↓reduceIte, ↓jn, gsL]; done) | rfl) ?_
    refine bS (by (try simp (disch := omega) only [fwI]); exact nc) ?_
    refine iT rfl ?_
    by_cases h2 : (frontN s).1 = 0
    ·refine iT (dT (by omega)) rfl
    ·refine iF (dF (by omega)) ?_
     rw [dT (by omega)]
   ·cases hh
  ·rw [if_neg hh]
   refine (jS (v := ((3 : Int), (wholeN s : Int))) (fun j => ?_)).trans ?_
   ·refine iT (by first | (simp (disch := omega) only [↓reduceIte, ↓jn, gsL]; done) | rfl) ?_
    refine bS (by (try simp (disch := omega) only [fwI]); exact whole_at hk hk3 hs hl') ?_
    refine bS (by (try simp (disch := omega) only [fwI]); exact front_at hk hk3 hs hl') ?_
    refine (jS (v := false) (fun j => ?_)).trans rfl
    rcases Nat.lt_or_ge (wholeN s) s.length with h | h
    ·obtain ⟨c, r, hc, nc, hm⟩ := nth_hd h
     unfold hashN at hh
     rw [hc] at hh
     simp only [Bool.and_eq_true, decide_eq_true_eq, Bool.or_eq_true] at hh
     refine iT (by first | (simp (disch := omega) only [↓reduceIte, ↓jn, gsL]; done) | rfl) ?_
     refine bS (by (try simp (disch := omega) only [fwI]); exact nc) ?_
     by_cases h35 : c = 35
     ·refine iT (dT (by omega)) ?_
      have h1 : ¬ (frontN s).1 = 0 := fun e => hh ⟨h35, .inl e⟩
      have h2 : ¬ wholeN s < (frontN s).1 := fun e => hh ⟨h35, .inr e⟩
      refine iF (dF (by omega)) ?_
      rw [dF (by omega)]
     ·refine iF (dF (by omega)) rfl
    ·simp (disch := omega) only [↓reduceIte, ↓jn, gsL]
   ·exact fin (wholeN s) 3 wl
 ·rw [if_neg h0]
  refine (jS (v := ((4 : Int), (partN s : Int))) (fun j => ?_)).trans ?_
  ·refine iF (by first | (simp (disch := omega) only [↓reduceIte, ↓jn, gsL]; done) | rfl) ?_
   rfl
  ·exact fin (partN s) 4 pl
theorem note_trm {k : Nat} {s : List Nat} (hs : By s) (hl : Sz s) {q : Nat} {t : List Nat} (hq : s = q :: t) (hq2 : blkN q = false) : ∀ (n f : Nat), n < f → 1 ≤ n → n ≤ s.length → g33_l4 k s f (n : Int) = some ((trmN s n : Nat) : Int)
 | 0, f, hf, h1, h2 => by omega
 | n + 1, f, hf, h1, h2 => by
  have hl' := hl
  unfold Sz at hl
  obtain ⟨f, rfl⟩ : ∃ f', f = f' + 1 := ⟨f - 1, by omega⟩
  rw [g33_l4_s]
  obtain ⟨c, r, hc, hr, hm, hrl⟩ := dcons (s := s) (i := n) (by omega)
  have nc : nthS s (((n + 1 : Nat) : Int) - 1) = some (c : Int) := nthX (i := n) (by omega) hc
  refine bS (by (try simp (disch := omega) only [fwI]); exact nc) ?_
  refine bS (by (try simp (disch := omega) only [fwI]); exact blank_at k (hs c hm)) ?_
  simp only [trmN, hc]
  cases hb : blkN c with
  | true =>
   refine iT rfl ?_
   have e : fwrap .i64 (((n + 1 : Nat) : Int) - 1) = (n : Int) := by rw [fwI (by omega) (by omega)]; omega
   rw [e]
   have hn : 1 ≤ n := by
    rcases Nat.lt_or_ge 0 n with h | h
    ·exact h
    ·exfalso
     obtain rfl : n = 0 := by omega
     rw [List.drop_zero, hq] at hc
     rw [(List.cons.inj hc).1, hb] at hq2
     cases hq2
   clear e
   refine (note_trm hs hl' hq hq2 n f (by omega) hn (by omega)).trans ?_
   rfl
  | false => rfl
theorem note_l (k : Nat) {s : List Nat} (hs : By s) (hl : Sz s) {R : Int → Option Int} (hR : ∀ x, g33_l4 k s k x = R x) : ∀ (f i : Nat), s.length < i + f → i ≤ s.length → g33_l2 k s f (i : Int) = R ((i + lineN (s.drop i) : Nat) : Int)
 | 0, i, h, h2 => by omega
 | f + 1, i, h, h2 => by
  have hl' := hl
  unfold Sz at hl
  rw [g33_l2_s]
  rcases Nat.lt_or_ge i s.length with hi | hi
  ·obtain ⟨c, r, hc, hr, hm, hrl⟩ := dcons hi
   have ih := note_l k hs hl' hR f (i + 1) (by omega) (by omega)
   rw [hr] at ih
   have nc := nthX (x := (i : Int)) rfl hc
   refine (jS (v := (!decide (c = 10), (i : Int))) (fun j => ?_)).trans ?_
   ·refine iT (by first | (simp (disch := omega) only [↓reduceIte, ↓jn, gsL]; done) | rfl) ?_
    refine bS (by (try simp (disch := omega) only [fwI]); exact nc) ?_
    congr 2
    rw [Bool.eq_iff_iff]; simp; omega
   ·rw [hc]
    simp only [lineN]
    by_cases h10 : c = 10
    ·rw [decide_eq_true h10, if_pos h10]
     refine iF rfl ?_
     exact hR _
    ·rw [decide_eq_false h10, if_neg h10]
     refine iT rfl ?_
     rw [fw_s (by omega)]
     refine ih.trans ?_
     congr 1; omega
  ·refine (jS (v := (false, (i : Int))) (fun j => ?_)).trans ?_
   ·simp (disch := omega) only [↓reduceIte, ↓jn, gsL]
   ·refine iF rfl ?_
    rw [dnil hi]
    exact hR _
theorem snote_at {k : Nat} {s : List Nat} (hk : s.length < k) (hs : By s) (hl : Sz s) {t : List Nat} (hq : s = 37 :: t) : g33 k s = some ((cmtN s : Nat) : Int) := by
 have := note_l k hs hl (R := fun x => g33_l4 k s k x) (fun _ => rfl) k 0 (by omega) (by omega)
 refine this.trans ?_
 rw [Nat.zero_add, List.drop_zero]
 have h1 := lineN_le s
 refine note_trm hs hl hq (by decide) (lineN s) k (by omega) ?_ h1
 rw [hq]; simp only [lineN]; simp
theorem macro_at {k : Nat} {s : List Nat} (hk : s.length < k) (hs : By s) (hl : Sz s) {a : Nat} {t : List Nat} (hq : s = a :: t) : g36 k s = some ((macN s : Nat) : Int) := by
 have hl' := hl
 unfold Sz at hl
 unfold g36
 have fin : ∀ n : Nat, n ≤ s.length → 1 ≤ n → ((g53 k s (n : Int)).bind fun x1_2 => (g37 k x1_2).bind fun x1_3 => jn (fun (z5 : Bool) => if z5 then (some (0 : Int)) else ((subL s (some (n : Int)) none).bind fun x2_3 => (g39 k x2_3).bind fun x2_4 => some (fwrap .i64 ((n : Int) + x2_4)))) (fun j5 => if (!decide (x1_3 = 1)) then (j5 (!decide (x1_3 = 2))) else (j5 false))) = some ((mac1 n (s.drop n) : Nat) : Int) := by
  intro n hn h1
  rcases Nat.lt_or_ge n s.length with h | h
  ·obtain ⟨c, r, hc, nc, hm⟩ := nth_hd h
   have ea : g53 k s (n : Int) = some (c : Int) := by
    unfold g53
    refine iF (by first | (simp (disch := omega) only [↓reduceIte, ↓jn, gsL]; done) | rfl) ?_
    refine bS (by (try simp (disch := omega) only [fwI]); exact nc) ?_
    rfl
   refine bS (by (try simp (disch := omega) only [fwI]); exact ea) ?_
   refine bS (by (try simp (disch := omega) only [fwI]); exact begins_at37 k (hs c hm)) ?_
   rw [hc]
   simp only [mac1]
   have il := innN_le (c :: r)
   have dl := drop_len hc
   by_cases hb : begN c = 1 ∨ begN c = 2
   ·rw [if_pos hb]
    refine (jS (v := false) (fun j => ?_)).trans ?_
    ·rcases hb with hb | hb
     ·rw [hb]; rfl
     ·rw [hb]; rfl
    ·refine iF rfl ?_
     refine bS (by (try simp (disch := omega) only [fwI]); exact subFrom (s := s) (x := (n : Int)) (i := n) rfl hn) ?_
     have si := sinner_at (k := k) (s := s.drop n) (by rw [List.length_drop]; omega) (hs.drop n) (by unfold Sz; rw [List.length_drop]; omega)
     refine bS (by (try simp (disch := omega) only [fwI]); exact si) ?_
     rw [hc]
     simp only [List.length_cons] at il
     rw [fw_a (by omega) (by omega)]
   ·rw [if_neg hb]
    refine (jS (v := true) (fun j => ?_)).trans rfl
    refine iT (by first | (simp (disch := omega) only [↓reduceIte, ↓jn, gsL]; done) | rfl) ?_
    rw [dF (by omega)]; rfl
  ·obtain rfl : n = s.length := by omega
   have ea : g53 k s (s.length : Int) = some ((0 : Nat) : Int) := by
    unfold g53
    refine iT (by first | (simp (disch := omega) only [↓reduceIte, ↓jn, gsL]; done) | rfl) ?_
    rfl
   refine bS (by (try simp (disch := omega) only [fwI]); exact ea) ?_
   refine bS (by (try simp (disch := omega) only [fwI]); exact begins_at37 k (c := 0) (by decide)) ?_
   rw [dnil (Nat.le_refl _)]
   rfl
 cases t with
 | nil =>
  subst hq
  refine (jS (v := false) (fun j => rfl)).trans ?_
  refine (jS (v := (1 : Int)) (fun j => rfl)).trans ?_
  exact fin 1 (Nat.le_refl _) (Nat.le_refl _)
 | cons c r =>
  have d1 : s.drop 1 = c :: r := by rw [hq]; rfl
  have d2 : s.drop 2 = r := by rw [hq]; rfl
  have n1 : nthS s 1 = some (c : Int) := nthX (i := 1) rfl d1
  have len : s.length = r.length + 2 := by rw [hq]; rfl
  have es : macN s = if c = 63 then mac1 2 r else mac1 1 (c :: r) := by rw [hq]; rfl
  rw [es]
  by_cases h63 : c = 63
  ·rw [if_pos h63]
   refine (jS (v := true) (fun j => ?_)).trans ?_
   ·refine iT (by first | (simp (disch := omega) only [↓reduceIte, ↓jn, gsL]; done) | rfl) ?_
    refine bS (by (try simp (disch := omega) only [fwI]); exact n1) ?_
    rw [dT (by omega)]
   ·refine (jS (v := ((2 : Nat) : Int)) (fun j => rfl)).trans ?_
    have := fin 2 (by omega) (by omega)
    rw [d2] at this
    exact this
  ·rw [if_neg h63]
   refine (jS (v := false) (fun j => ?_)).trans ?_
   ·refine iT (by first | (simp (disch := omega) only [↓reduceIte, ↓jn, gsL]; done) | rfl) ?_
    refine bS (by (try simp (disch := omega) only [fwI]); exact n1) ?_
    rw [dF (by omega)]
   ·refine (jS (v := ((1 : Nat) : Int)) (fun j => rfl)).trans ?_
    have := fin 1 (by omega) (by omega)
    rw [d1] at this
    exact this
end Go.Proofs.Ytokcjgjgojlhbaa.Am
set_option maxRecDepth 100000
set_option linter.unusedVariables false
set_option linter.unusedSimpArgs false
namespace Go.Proofs.Ytokcjgjgojlhbaa.Am
open Go
def mkTok (s : List Nat) (x : Nat × Nat × Nat) : S28 := ⟨(x.1 : Int), (s.drop x.2.1).take x.2.2, (x.2.1 : Int)⟩
def toksN (s : List Nat) : Nat → Nat → Option (List (Nat × Nat × Nat))
 | 0, _ => some []
 | f + 1, a => if s.length ≤ a + skipN (s.drop a) then some [] else if (oneN (s.drop (a + skipN (s.drop a)))).1 = 0 then none else (toksN s f (a + skipN (s.drop a) + (oneN (s.drop (a + skipN (s.drop a)))).1)).map fun l => ((oneN (s.drop (a + skipN (s.drop a)))).2, a + skipN (s.drop a), (oneN (s.drop (a + skipN (s.drop a)))).1) :: l
def scanN (s : List Nat) : List S28 × Int := if 65536 < s.length then ([], 3) else if vld s.length s = false then ([], 2) else match toksN s (s.length + 1) 0 with | some l => (l.map (mkTok s), 0) | none => ([], 4)
def tok0 : S28 := ⟨0, [], 0⟩
def oneAt (s : List Nat) (a : Nat) : S28 × Int := if (oneN (s.drop a)).1 = 0 then (tok0, 4) else (mkTok s ((oneN (s.drop a)).2, a, (oneN (s.drop a)).1), 0)
theorem toks_len (s : List Nat) : ∀ (f a : Nat) (l : List (Nat × Nat × Nat)), toksN s f a = some l → a ≤ s.length → l.length + a ≤ s.length
 | 0, a, l, h, ha => by cases h; simpa using ha
 | f + 1, a, l, h, ha => by
  unfold toksN at h
  split at h
  ·cases h; simpa using ha
  ·split at h
   ·cases h
   ·rename_i h1 h2
    cases hx : toksN s f (a + skipN (s.drop a) + (oneN (s.drop (a + skipN (s.drop a)))).1) with
    | none => rw [hx] at h; cases h
    | some l' =>
     rw [hx] at h
     cases h
     have ol := oneN_le (s.drop (a + skipN (s.drop a)))
     rw [List.length_drop] at ol
     have := toks_len s f _ l' hx (by omega)
     simp only [List.length_cons]
     omega
end Go.Proofs.Ytokcjgjgojlhbaa.Am
set_option maxRecDepth 100000
set_option linter.unusedVariables false
namespace Go.Proofs.Ytokcjgjgojlhbaa.Am
noncomputable section
open Go
def X14 : Fx (S28 × Int) := ⟨Try.prog, cx, Try.f14, fun r => .tuple [.agg [.int .i64 r.1.f0, .str r.1.f1, .int .i64 r.1.f2], .int .i64 r.2], 0, fun _ => H0, cxTi, cxOrd⟩
def g14p0 : Pt := nav [0] (bodyAt Try.f14)
def g14p1 : Pt := nav [0, 0, 0, 0] g14p0
def g14p2 : Pt := nav [0, 0] g14p1
def g14p4 : Pt := nav [2, 0, 0] g14p2
def g14p6 : Pt := nav [0, 0, 0, 0] g14p4
def g14p7 : Pt := nav [0, 0] g14p6
def g14p9 : Pt := nav [2, 0, 0] g14p7
def g14 (k : Nat) (a0 : (List Nat)) (a1 : Int) : Option (S28 × Int) :=
 jn (fun (z2 : Bool) => if z2 then (some ((⟨(0 : Int), ([] : List Nat), (0 : Int)⟩ : S28), (4 : Int))) else ((subL a0 (some a1) none).bind fun x0_2 => (g20 k x0_2).bind fun x0_3 => if (decide (x0_3.1 = 0)) then (some ((⟨(0 : Int), ([] : List Nat), (0 : Int)⟩ : S28), (4 : Int))) else ((subL a0 (some a1) (some (fwrap .i64 (a1 + x0_3.1)))).bind fun x1_6 => some ((⟨x0_3.2, x1_6, a1⟩ : S28), (0 : Int))))) (fun j2 => if (decide (a1 < 0)) then (j2 true) else (j2 (decide ((a0.length : Int) ≤ a1))))
theorem g14_ok (k : Nat) (a0 : (List Nat)) (a1 : Int) (r : (S28 × Int)) (h : g14 k a0 a1 = some r) : PureOk Try.prog 14 [.str a0, .int .i64 a1] (.tuple [.agg [.int .i64 r.1.f0, .str r.1.f1, .int .i64 r.1.f2], .int .i64 r.2]) := by
 refine pure_of X14 (fun _ => rfl) Try.func14 (by decide +kernel) (by kernel_rfl) (t := g14 k a0 a1) ?_ h
 unfold g14
 refine ok_env (env' := [(0, .str a0), (1, .int .i64 a1)]) (by kernel_rfl) ?_
 let E1 : Env := [(10, .bool (decide (a1 < 0))), (9, .bool (decide (a1 < 0))), (8, .int .i64 a1), (5, .int .i64 0), (4, .ptr 0 3 0), (0, .str a0), (1, .int .i64 a1)]
 refine ok_run 11 (p' := (atN 3 (ctl1 g14p1))) (env' := E1) (H' := (mkH [⟨[.int .i64 0, .str [], .int .i64 0], 0, false⟩])) (by kernel_rfl) ?_
 refine ok_jn (f := fun (z2 : Bool) => if z2 then (some ((⟨(0 : Int), ([] : List Nat), (0 : Int)⟩ : S28), (4 : Int))) else ((subL a0 (some a1) none).bind fun x0_2 => (g20 k x0_2).bind fun x0_3 => if (decide (x0_3.1 = 0)) then (some ((⟨(0 : Int), ([] : List Nat), (0 : Int)⟩ : S28), (4 : Int))) else ((subL a0 (some a1) (some (fwrap .i64 (a1 + x0_3.1)))).bind fun x1_6 => some ((⟨x0_3.2, x1_6, a1⟩ : S28), (0 : Int))))) g14p2 (fun (z2 : Bool) => [(0, .str a0), (1, .int .i64 a1), (4, .ptr 0 3 0), (15, .bool z2)]) (fun (z2 : Bool) => (mkH [⟨[.int .i64 0, .str [], .int .i64 0], 0, false⟩])) (fun z2 => ?_) (fun j2 hj2 => ?_)
 ·refine ok_split 15 (b := z2) (by kernel_rfl) (fun hb => ?_) (fun hb => ?_)
  ·let E2 : Env := [(5, .int .i64 4), (16, .agg [.int .i64 0, .str [], .int .i64 0]), (15, .bool true), (0, .str a0), (1, .int .i64 a1), (4, .ptr 0 3 0), (15, .bool z2)]
   refine ok_run 8 (p' := .fin) (env' := E2) (H' := (mkH [⟨[.int .i64 0, .str [], .int .i64 0], 3, false⟩])) (by kernel_rfl) ?_
   exact ok_ret (r := ((⟨(0 : Int), ([] : List Nat), (0 : Int)⟩ : S28), (4 : Int))) (xs := [.agg [.int .i64 0, .str [], .int .i64 0], .int .i64 4]) (v := .tuple [.agg [.int .i64 0, .str [], .int .i64 0], .int .i64 4]) (by kernel_rfl) (by kernel_rfl) (by kernel_rfl) (.pures (by kernel_rfl)) (by kernel_rfl)
  ·let E3 : Env := [(19, .int .i64 a1), (18, .str a0), (15, .bool false), (0, .str a0), (1, .int .i64 a1), (4, .ptr 0 3 0), (15, .bool z2)]
   refine ok_run 6 (p' := (atN 2 (ctl1 g14p4))) (env' := E3) (H' := (mkH [⟨[.int .i64 0, .str [], .int .i64 0], 0, false⟩])) (by kernel_rfl) ?_
   refine ok_chk (fun (x0_2 : (List Nat)) => (.str x0_2, (mkH [⟨[.int .i64 0, .str [], .int .i64 0], 0, false⟩]))) (atN 3 (ctl1 g14p4)) (fun x0_2 => ((20, .str x0_2) :: E3)) (subH (some a1) none (by kernel_rfl)) (fun _ => by kernel_rfl) (fun x0_2 hx0_2 => ?_)
   refine ok_call (fun (x0_3 : (Int × Int)) => .tuple [.int .i64 x0_3.1, .int .i64 x0_3.2]) (atN 4 (ctl1 g14p4)) (fun x0_3 => ((21, .tuple [.int .i64 x0_3.1, .int .i64 x0_3.2]) :: (20, .str x0_2) :: E3)) (fi := 20) (args := [.str x0_2]) (by kernel_rfl) (by kernel_rfl) (fun _ => by kernel_rfl) (fun r h => g20_ok k x0_2 r h) (fun _ => by kernel_rfl) (fun x0_3 hx0_3 => ?_)
   let E4 : Env := ((7, .int .i64 x0_3.2) :: (6, .int .i64 x0_3.1) :: (23, .int .i64 x0_3.2) :: (22, .int .i64 x0_3.1) :: (17, .tuple [.int .i64 x0_3.1, .int .i64 x0_3.2]) :: (21, .tuple [.int .i64 x0_3.1, .int .i64 x0_3.2]) :: (20, .str x0_2) :: E3)
   refine ok_run 8 (p' := g14p6) (env' := E4) (H' := (mkH [⟨[.int .i64 0, .str [], .int .i64 0], 0, false⟩])) (by kernel_rfl) ?_
   refine ok_keep [0, 1, 4, 6, 7] (env' := [(0, .str a0), (1, .int .i64 a1), (4, .ptr 0 3 0), (6, .int .i64 x0_3.1), (7, .int .i64 x0_3.2)]) (by kernel_rfl) ?_
   let E5 : Env := [(25, .bool (decide (x0_3.1 = 0))), (24, .int .i64 x0_3.1), (0, .str a0), (1, .int .i64 a1), (4, .ptr 0 3 0), (6, .int .i64 x0_3.1), (7, .int .i64 x0_3.2)]
   refine ok_run 4 (p' := g14p7) (env' := E5) (H' := (mkH [⟨[.int .i64 0, .str [], .int .i64 0], 0, false⟩])) (by kernel_rfl) ?_
   refine ok_split 25 (b := decide (x0_3.1 = 0)) (by kernel_rfl) (fun hb => ?_) (fun hb => ?_)
   ·refine ok_run 8 (p' := .fin) (env' := ((5, .int .i64 4) :: (26, .agg [.int .i64 0, .str [], .int .i64 0]) :: (25, .bool true) :: E5)) (H' := (mkH [⟨[.int .i64 0, .str [], .int .i64 0], 3, false⟩])) (by kernel_rfl) ?_
    exact ok_ret (r := ((⟨(0 : Int), ([] : List Nat), (0 : Int)⟩ : S28), (4 : Int))) (xs := [.agg [.int .i64 0, .str [], .int .i64 0], .int .i64 4]) (v := .tuple [.agg [.int .i64 0, .str [], .int .i64 0], .int .i64 4]) (by kernel_rfl) (by kernel_rfl) (by kernel_rfl) (.pures (by kernel_rfl)) (by kernel_rfl)
   ·let E6 : Env := ((32, .int .i64 (fwrap .i64 (a1 + x0_3.1))) :: (31, .int .i64 x0_3.1) :: (30, .int .i64 a1) :: (29, .int .i64 a1) :: (28, .str a0) :: (27, .int .i64 x0_3.2) :: (25, .bool false) :: E5)
    refine ok_run 10 (p' := (atN 6 (ctl1 g14p9))) (env' := E6) (H' := (mkH [⟨[.int .i64 0, .str [], .int .i64 0], 0, false⟩])) (by kernel_rfl) ?_
    refine ok_chk (fun (x1_6 : (List Nat)) => (.str x1_6, (mkH [⟨[.int .i64 0, .str [], .int .i64 0], 0, false⟩]))) (atN 7 (ctl1 g14p9)) (fun x1_6 => ((33, .str x1_6) :: E6)) (subH (some a1) (some (fwrap .i64 (a1 + x0_3.1))) (by kernel_rfl)) (fun _ => by kernel_rfl) (fun x1_6 hx1_6 => ?_)
    refine ok_run 6 (p' := .fin) (env' := ((5, .int .i64 0) :: (35, .agg [.int .i64 x0_3.2, .str x1_6, .int .i64 a1]) :: (34, .int .i64 a1) :: (33, .str x1_6) :: E6)) (H' := (mkH [⟨[.int .i64 x0_3.2, .str x1_6, .int .i64 a1], 3, false⟩])) (by kernel_rfl) ?_
    exact ok_ret (r := ((⟨x0_3.2, x1_6, a1⟩ : S28), (0 : Int))) (xs := [.agg [.int .i64 x0_3.2, .str x1_6, .int .i64 a1], .int .i64 0]) (v := .tuple [.agg [.int .i64 x0_3.2, .str x1_6, .int .i64 a1], .int .i64 0]) (by kernel_rfl) (by kernel_rfl) (by kernel_rfl) (.pures (by kernel_rfl)) (by kernel_rfl)
 ·refine ok_split 10 (b := decide (a1 < 0)) (by kernel_rfl) (fun hb => ?_) (fun hb => ?_)
  ·let E7 : Env := ((15, .bool true) :: (14, .tuple []) :: (13, .tuple []) :: (12, .tuple []) :: (11, .tuple []) :: (10, .bool true) :: E1)
   refine ok_run 6 (p' := g14p2) (env' := E7) (H' := (mkH [⟨[.int .i64 0, .str [], .int .i64 0], 0, false⟩])) (by kernel_rfl) ?_
   refine ok_keep [0, 1, 4, 15] (env' := [(0, .str a0), (1, .int .i64 a1), (4, .ptr 0 3 0), (15, .bool true)]) (by kernel_rfl) ?_
   exact hj2 true
  ·let E8 : Env := ((15, .bool (decide ((a0.length : Int) ≤ a1))) :: (14, .bool (decide ((a0.length : Int) ≤ a1))) :: (13, .int .i64 (a0.length : Int)) :: (12, .str a0) :: (11, .int .i64 a1) :: (10, .bool false) :: E1)
   refine ok_run 6 (p' := g14p2) (env' := E8) (H' := (mkH [⟨[.int .i64 0, .str [], .int .i64 0], 0, false⟩])) (by kernel_rfl) ?_
   refine ok_keep [0, 1, 4, 15] (env' := [(0, .str a0), (1, .int .i64 a1), (4, .ptr 0 3 0), (15, .bool (decide ((a0.length : Int) ≤ a1)))]) (by kernel_rfl) ?_
   exact hj2 (decide ((a0.length : Int) ≤ a1))
end
end Go.Proofs.Ytokcjgjgojlhbaa.Am
set_option maxRecDepth 100000
set_option linter.unusedVariables false
namespace Go.Proofs.Ytokcjgjgojlhbaa.Am
noncomputable section
open Go
def X11 : Fx ((List S28) × Int) := ⟨Try.prog, cx, Try.f11, fun r => .tuple [.vec (r.1).length 3 ((r.1).flatMap e29), .int .i64 r.2], 0, fun _ => H0, cxTi, cxOrd⟩
def g11p0 : Pt := nav [0] (bodyAt Try.f11)
def g11p1 : Pt := nav [0, 0, 0, 0, 0, 0] g11p0
def g11p2 : Pt := nav [0, 0] g11p1
def g11p4 : Pt := nav [2, 0] g11p2
def g11p6 : Pt := nav [0, 0] g11p4
def g11p8 : Pt := nav [2, 0, 0] g11p6
def g11p9 : Pt := nav [0, 0, 0] g11p8
def g11p10 : Pt := nav [0, 0, 0, 0, 0, 0] g11p9
def g11p11 : Pt := nav [0, 0, 0] g11p10
def g11p12 : Pt := nav [0, 0] g11p11
def g11p14 : Pt := nav [2, 0, 0] g11p12
def g11p15 : Pt := nav [0, 0, 0, 0] g11p14
def g11p16 : Pt := nav [0, 0] g11p15
def g11p18 : Pt := nav [2, 0, 0] g11p16
def g11_l4 (k : Nat)  (a0 : (List Nat)) (n : Nat) : Int → (List S28) → Option ((List S28) × Int) :=
 Nat.rec (motive := fun _ => Int → (List S28) → Option ((List S28) × Int)) (fun _ _ => none) (fun _ ih => fun (y4_0 : Int) (y4_1 : (List S28)) => (g16 k a0 y4_0).bind fun x1_2 => if (decide (x1_2 = (a0.length : Int))) then (some (y4_1, (0 : Int))) else ((g14 k a0 x1_2).bind fun x2_2 => if (!decide (x2_2.2 = 0)) then (some (([] : List S28), x2_2.2)) else ((appS 32 y4_1 ([(⟨x2_2.1.f0, x2_2.1.f1, x2_2.1.f2⟩ : S28)] : List S28)).bind fun x3_3 => ih (fwrap .i64 (x1_2 + (x2_2.1.f1.length : Int))) x3_3))) n
theorem g11_l4_s (k : Nat)  (a0 : (List Nat)) (n : Nat) (y4_0 : Int) (y4_1 : (List S28)) : g11_l4 k a0 (n + 1) y4_0 y4_1 = ((g16 k a0 y4_0).bind fun x1_2 => if (decide (x1_2 = (a0.length : Int))) then (some (y4_1, (0 : Int))) else ((g14 k a0 x1_2).bind fun x2_2 => if (!decide (x2_2.2 = 0)) then (some (([] : List S28), x2_2.2)) else ((appS 32 y4_1 ([(⟨x2_2.1.f0, x2_2.1.f1, x2_2.1.f2⟩ : S28)] : List S28)).bind fun x3_3 => (g11_l4 k a0 n) (fwrap .i64 (x1_2 + (x2_2.1.f1.length : Int))) x3_3))) := rfl
theorem g11_l4_ok (k : Nat)  (a0 : (List Nat))  : ∀ (n : Nat) (y4_0 : Int) (y4_1 : (List S28)), Ok X11 g11p10 [(0, .str a0), (4, .own 0 (y4_1).length 3), (5, .int .i64 y4_0)] (mkH [⟨(y4_1).flatMap e29, 0, false⟩]) (g11_l4 k a0 n y4_0 y4_1)
 | 0, _, _ => ok_none
 | n + 1, y4_0, y4_1 => by
  have ih := g11_l4_ok k a0 n
  rw [g11_l4_s]
  let E5 : Env := [(17, .int .i64 y4_0), (16, .str a0), (0, .str a0), (4, .own 0 (y4_1).length 3), (5, .int .i64 y4_0)]
  refine ok_run 3 (p' := (atN 2 (ctl1 g11p10))) (env' := E5) (H' := (mkH [⟨(y4_1).flatMap e29, 0, false⟩])) (by kernel_rfl) ?_
  refine ok_call (fun (x1_2 : Int) => .int .i64 x1_2) (atN 3 (ctl1 g11p10)) (fun x1_2 => ((18, .int .i64 x1_2) :: E5)) (fi := 16) (args := [.str a0, .int .i64 y4_0]) (by kernel_rfl) (by kernel_rfl) (fun _ => by kernel_rfl) (fun r h => g16_ok k a0 y4_0 r h) (fun _ => by kernel_rfl) (fun x1_2 hx1_2 => ?_)
  let E6 : Env := ((22, .bool (decide (x1_2 = (a0.length : Int)))) :: (21, .int .i64 (a0.length : Int)) :: (20, .str a0) :: (19, .int .i64 x1_2) :: (5, .int .i64 x1_2) :: (18, .int .i64 x1_2) :: E5)
  refine ok_run 9 (p' := g11p12) (env' := E6) (H' := (mkH [⟨(y4_1).flatMap e29, 0, false⟩])) (by kernel_rfl) ?_
  refine ok_keep [0, 4, 5, 22] (env' := [(0, .str a0), (4, .own 0 (y4_1).length 3), (5, .int .i64 x1_2), (22, .bool (decide (x1_2 = (a0.length : Int))))]) (by kernel_rfl) ?_
  refine ok_split 22 (b := decide (x1_2 = (a0.length : Int))) (by kernel_rfl) (fun hb => ?_) (fun hb => ?_)
  ·let E7 : Env := [(3, .int .i64 0), (2, .own 0 (y4_1).length 3), (23, .own 0 (y4_1).length 3), (22, .bool true), (0, .str a0), (4, .own 0 (y4_1).length 3), (5, .int .i64 x1_2), (22, .bool (decide (x1_2 = (a0.length : Int))))]
   refine ok_run 8 (p' := .fin) (env' := E7) (H' := (mkH [⟨(y4_1).flatMap e29, 0, false⟩])) (by kernel_rfl) ?_
   exact ok_ret (r := (y4_1, (0 : Int))) (xs := [.own 0 (y4_1).length 3, .int .i64 0]) (v := .tuple [.vec (y4_1).length 3 ((y4_1).flatMap e29), .int .i64 0]) (by kernel_rfl) (by kernel_rfl) (by kernel_rfl) (.tuple (fz_own e29_len e29_pur rfl rfl (.pures (by kernel_rfl))) (.pures (by kernel_rfl))) (by kernel_rfl)
  ·let E8 : Env := [(26, .int .i64 x1_2), (25, .str a0), (22, .bool false), (0, .str a0), (4, .own 0 (y4_1).length 3), (5, .int .i64 x1_2), (22, .bool (decide (x1_2 = (a0.length : Int))))]
   refine ok_run 6 (p' := (atN 2 (ctl1 g11p14))) (env' := E8) (H' := (mkH [⟨(y4_1).flatMap e29, 0, false⟩])) (by kernel_rfl) ?_
   refine ok_call (fun (x2_2 : (S28 × Int)) => .tuple [.agg [.int .i64 x2_2.1.f0, .str x2_2.1.f1, .int .i64 x2_2.1.f2], .int .i64 x2_2.2]) (atN 3 (ctl1 g11p14)) (fun x2_2 => ((27, .tuple [.agg [.int .i64 x2_2.1.f0, .str x2_2.1.f1, .int .i64 x2_2.1.f2], .int .i64 x2_2.2]) :: E8)) (fi := 14) (args := [.str a0, .int .i64 x1_2]) (by kernel_rfl) (by kernel_rfl) (fun _ => by kernel_rfl) (fun r h => g14_ok k a0 x1_2 r h) (fun _ => by kernel_rfl) (fun x2_2 hx2_2 => ?_)
   let E9 : Env := ((7, .int .i64 x2_2.2) :: (6, .ptr 1 3 0) :: (29, .int .i64 x2_2.2) :: (28, .agg [.int .i64 x2_2.1.f0, .str x2_2.1.f1, .int .i64 x2_2.1.f2]) :: (24, .tuple [.agg [.int .i64 x2_2.1.f0, .str x2_2.1.f1, .int .i64 x2_2.1.f2], .int .i64 x2_2.2]) :: (27, .tuple [.agg [.int .i64 x2_2.1.f0, .str x2_2.1.f1, .int .i64 x2_2.1.f2], .int .i64 x2_2.2]) :: E8)
   refine ok_run 9 (p' := g11p15) (env' := E9) (H' := (mkH [⟨(y4_1).flatMap e29, 0, false⟩, ⟨[.int .i64 x2_2.1.f0, .str x2_2.1.f1, .int .i64 x2_2.1.f2], 3, false⟩])) (by kernel_rfl) ?_
   refine ok_keep [0, 4, 5, 6, 7] (env' := [(0, .str a0), (4, .own 0 (y4_1).length 3), (5, .int .i64 x1_2), (6, .ptr 1 3 0), (7, .int .i64 x2_2.2)]) (by kernel_rfl) ?_
   let E10 : Env := [(31, .bool (!decide (x2_2.2 = 0))), (30, .int .i64 x2_2.2), (0, .str a0), (4, .own 0 (y4_1).length 3), (5, .int .i64 x1_2), (6, .ptr 1 3 0), (7, .int .i64 x2_2.2)]
   refine ok_run 4 (p' := g11p16) (env' := E10) (H' := (mkH [⟨(y4_1).flatMap e29, 0, false⟩, ⟨[.int .i64 x2_2.1.f0, .str x2_2.1.f1, .int .i64 x2_2.1.f2], 3, false⟩])) (by kernel_rfl) ?_
   refine ok_split 31 (b := !decide (x2_2.2 = 0)) (by kernel_rfl) (fun hb => ?_) (fun hb => ?_)
   ·refine ok_run 8 (p' := .fin) (env' := ((3, .int .i64 x2_2.2) :: (2, .nils) :: (32, .int .i64 x2_2.2) :: (31, .bool true) :: E10)) (H' := (mkH [⟨(y4_1).flatMap e29, 0, false⟩, ⟨[.int .i64 x2_2.1.f0, .str x2_2.1.f1, .int .i64 x2_2.1.f2], 3, false⟩])) (by kernel_rfl) ?_
    exact ok_ret (r := (([] : List S28), x2_2.2)) (xs := [.nils, .int .i64 x2_2.2]) (v := .tuple [.vec 0 3 [], .int .i64 x2_2.2]) (by kernel_rfl) (by kernel_rfl) (by kernel_rfl) (.tuple (.nil (.pures (by kernel_rfl))) (.pures (by kernel_rfl))) (by kernel_rfl)
   ·refine ok_run 3 (p' := g11p18) (env' := ((31, .bool false) :: E10)) (H' := (mkH [⟨(y4_1).flatMap e29, 0, false⟩, ⟨[.int .i64 x2_2.1.f0, .str x2_2.1.f1, .int .i64 x2_2.1.f2], 3, false⟩])) (by kernel_rfl) ?_
    refine ok_bind (fun x3_3 hx3_3 => ?_)
    let E11 : Env := [(35, .slice 2 3 0 1 3), (34, .agg [.int .i64 x2_2.1.f0, .str x2_2.1.f1, .int .i64 x2_2.1.f2]), (33, .own 0 (y4_1).length 3), (31, .bool false), (31, .bool (!decide (x2_2.2 = 0))), (30, .int .i64 x2_2.2), (0, .str a0), (4, .own 0 (y4_1).length 3), (5, .int .i64 x1_2), (6, .ptr 1 3 0), (7, .int .i64 x2_2.2)]
    let E12 : Env := ((5, .int .i64 (fwrap .i64 (x1_2 + (x2_2.1.f1.length : Int)))) :: (4, .own 0 (x3_3).length 3) :: (41, .int .i64 (fwrap .i64 (x1_2 + (x2_2.1.f1.length : Int)))) :: (40, .int .i64 (x2_2.1.f1.length : Int)) :: (39, .str x2_2.1.f1) :: (38, .ptr 1 3 1) :: (37, .int .i64 x1_2) :: (36, .own 0 (x3_3).length 3) :: E11)
    refine ok_draw (p' := nav [0] g11p18) (env' := E12) (H' := (mkH [⟨(x3_3).flatMap e29, 0, false⟩, ⟨[.int .i64 x2_2.1.f0, .str x2_2.1.f1, .int .i64 x2_2.1.f2], 3, false⟩, ⟨[.int .i64 x2_2.1.f0, .str x2_2.1.f1, .int .i64 x2_2.1.f2], 0, false⟩])) (hs := [(mkH [⟨(y4_1).flatMap e29, 0, false⟩, ⟨[.int .i64 x2_2.1.f0, .str x2_2.1.f1, .int .i64 x2_2.1.f2], 3, false⟩, ⟨[.int .i64 x2_2.1.f0, .str x2_2.1.f1, .int .i64 x2_2.1.f2], 0, false⟩]), (mkH [⟨(x3_3).flatMap e29, 0, false⟩, ⟨[.int .i64 x2_2.1.f0, .str x2_2.1.f1, .int .i64 x2_2.1.f2], 3, false⟩, ⟨[.int .i64 x2_2.1.f0, .str x2_2.1.f1, .int .i64 x2_2.1.f2], 0, false⟩])]) [(0, 0, 0), (0, 0, 0), (2, 0, 0), (7, 0, 0), (0, 0, 0), (0, 0, 0), (32, 0, 2), (96, 0, 0), (240, 0, 0), (15, 0, 0), (1023, 0, 0)] (by kernel_rfl) (by kernel_rfl) (by kernel_rfl) (opsD_run 3 (l' := (opsAt g11p18).toList.drop 3) (env' := E11) (H' := (mkH [⟨(y4_1).flatMap e29, 0, false⟩, ⟨[.int .i64 x2_2.1.f0, .str x2_2.1.f1, .int .i64 x2_2.1.f2], 3, false⟩, ⟨[.int .i64 x2_2.1.f0, .str x2_2.1.f1, .int .i64 x2_2.1.f2], 0, false⟩])) (hs := [(mkH [⟨(y4_1).flatMap e29, 0, false⟩, ⟨[.int .i64 x2_2.1.f0, .str x2_2.1.f1, .int .i64 x2_2.1.f2], 3, false⟩, ⟨[.int .i64 x2_2.1.f0, .str x2_2.1.f1, .int .i64 x2_2.1.f2], 0, false⟩])]) (by kernel_rfl) (opsD_chk (l' := (opsAt g11p18).toList.drop 4) (env' := ((36, .own 0 (x3_3).length 3) :: E11)) (hs := [(mkH [⟨(x3_3).flatMap e29, 0, false⟩, ⟨[.int .i64 x2_2.1.f0, .str x2_2.1.f1, .int .i64 x2_2.1.f2], 3, false⟩, ⟨[.int .i64 x2_2.1.f0, .str x2_2.1.f1, .int .i64 x2_2.1.f2], 0, false⟩])]) (x := x3_3) (fun (x3_3 : (List S28)) => (.own 0 (x3_3).length 3, (mkH [⟨(x3_3).flatMap e29, 0, false⟩, ⟨[.int .i64 x2_2.1.f0, .str x2_2.1.f1, .int .i64 x2_2.1.f2], 3, false⟩, ⟨[.int .i64 x2_2.1.f0, .str x2_2.1.f1, .int .i64 x2_2.1.f2], 0, false⟩]))) (appH (sz := 3) e29_len rfl e29_one [⟨(y4_1).flatMap e29, 0, false⟩, ⟨[.int .i64 x2_2.1.f0, .str x2_2.1.f1, .int .i64 x2_2.1.f2], 3, false⟩, ⟨[.int .i64 x2_2.1.f0, .str x2_2.1.f1, .int .i64 x2_2.1.f2], 0, false⟩] 0 32 y4_1 ([(⟨x2_2.1.f0, x2_2.1.f1, x2_2.1.f2⟩ : S28)] : List S28) rfl rfl (by kernel_rfl)) hx3_3 (by kernel_rfl) (opsD_run 7 (l' := (opsAt g11p18).toList.drop 11) (env' := E12) (H' := (mkH [⟨(x3_3).flatMap e29, 0, false⟩, ⟨[.int .i64 x2_2.1.f0, .str x2_2.1.f1, .int .i64 x2_2.1.f2], 3, false⟩, ⟨[.int .i64 x2_2.1.f0, .str x2_2.1.f1, .int .i64 x2_2.1.f2], 0, false⟩])) (hs := []) (by kernel_rfl) (.nil)))) (by kernel_rfl) (by kernel_rfl) (by kernel_rfl) ?_
    refine ok_run 5 (p' := g11p10) (env' := E12) (H' := (mkH [⟨(x3_3).flatMap e29, 0, false⟩, ⟨[.int .i64 x2_2.1.f0, .str x2_2.1.f1, .int .i64 x2_2.1.f2], 3, false⟩, ⟨[.int .i64 x2_2.1.f0, .str x2_2.1.f1, .int .i64 x2_2.1.f2], 0, false⟩])) (by kernel_rfl) ?_
    refine ok_keep [0, 4, 5] (env' := [(0, .str a0), (4, .own 0 (x3_3).length 3), (5, .int .i64 (fwrap .i64 (x1_2 + (x2_2.1.f1.length : Int))))]) (by kernel_rfl) ?_
    refine ok_cut [⟨(x3_3).flatMap e29, 0, false⟩] [⟨[.int .i64 x2_2.1.f0, .str x2_2.1.f1, .int .i64 x2_2.1.f2], 3, false⟩, ⟨[.int .i64 x2_2.1.f0, .str x2_2.1.f1, .int .i64 x2_2.1.f2], 0, false⟩] (by kernel_rfl) rfl (by kernel_rfl) ⟨(purs_belows _ (purs_flatMap e29_pur _)), trivial⟩ ?_
    exact ih (fwrap .i64 (x1_2 + (x2_2.1.f1.length : Int))) x3_3
def g11 (k : Nat) (a0 : (List Nat)) : Option ((List S28) × Int) :=
 if (decide (65536 < (a0.length : Int))) then (some (([] : List S28), (3 : Int))) else ((g18 k a0).bind fun x0_1 => if (!x0_1) then (some (([] : List S28), (2 : Int))) else (g11_l4 k a0 k 0 ([] : List S28)))
theorem g11_ok (k : Nat) (a0 : (List Nat)) (r : ((List S28) × Int)) (h : g11 k a0 = some r) : PureOk Try.prog 11 [.str a0] (.tuple [.vec (r.1).length 3 ((r.1).flatMap e29), .int .i64 r.2]) := by
 refine pure_of X11 (fun _ => rfl) Try.func11 (by decide +kernel) (by kernel_rfl) (t := g11 k a0) ?_ h
 unfold g11
 refine ok_env (env' := [(0, .str a0)]) (by kernel_rfl) ?_
 let E1 : Env := [(8, .bool (decide (65536 < (a0.length : Int)))), (11, .bool (decide (65536 < (a0.length : Int)))), (10, .int .i64 (a0.length : Int)), (9, .str a0), (3, .int .i64 0), (2, .nils), (0, .str a0)]
 refine ok_run 15 (p' := g11p2) (env' := E1) (H' := (mkH [])) (by kernel_rfl) ?_
 refine ok_split 8 (b := decide (65536 < (a0.length : Int))) (by kernel_rfl) (fun hb => ?_) (fun hb => ?_)
 ·refine ok_run 7 (p' := .fin) (env' := ((3, .int .i64 3) :: (2, .nils) :: (8, .bool true) :: E1)) (H' := (mkH [])) (by kernel_rfl) ?_
  exact ok_ret (r := (([] : List S28), (3 : Int))) (xs := [.nils, .int .i64 3]) (v := .tuple [.vec 0 3 [], .int .i64 3]) (by kernel_rfl) (by kernel_rfl) (by kernel_rfl) (.tuple (.nil (.pures (by kernel_rfl))) (.pures (by kernel_rfl))) (by kernel_rfl)
 ·refine ok_run 4 (p' := (atN 1 (ctl1 g11p4))) (env' := ((13, .str a0) :: (8, .bool false) :: E1)) (H' := (mkH [])) (by kernel_rfl) ?_
  refine ok_call (fun (x0_1 : Bool) => .bool x0_1) (atN 2 (ctl1 g11p4)) (fun x0_1 => ((14, .bool x0_1) :: (13, .str a0) :: (8, .bool false) :: E1)) (fi := 18) (args := [.str a0]) (by kernel_rfl) (by kernel_rfl) (fun _ => by kernel_rfl) (fun r h => g18_ok k a0 r h) (fun _ => by kernel_rfl) (fun x0_1 hx0_1 => ?_)
  let E2 : Env := ((12, .bool (!x0_1)) :: (15, .bool (!x0_1)) :: (14, .bool x0_1) :: (13, .str a0) :: (8, .bool false) :: E1)
  refine ok_run 3 (p' := g11p6) (env' := E2) (H' := (mkH [])) (by kernel_rfl) ?_
  refine ok_keep [0, 12] (env' := [(0, .str a0), (12, .bool (!x0_1))]) (by kernel_rfl) ?_
  refine ok_split 12 (b := !x0_1) (by kernel_rfl) (fun hb => ?_) (fun hb => ?_)
  ·let E3 : Env := [(3, .int .i64 2), (2, .nils), (12, .bool true), (0, .str a0), (12, .bool (!x0_1))]
   refine ok_run 7 (p' := .fin) (env' := E3) (H' := (mkH [])) (by kernel_rfl) ?_
   exact ok_ret (r := (([] : List S28), (2 : Int))) (xs := [.nils, .int .i64 2]) (v := .tuple [.vec 0 3 [], .int .i64 2]) (by kernel_rfl) (by kernel_rfl) (by kernel_rfl) (.tuple (.nil (.pures (by kernel_rfl))) (.pures (by kernel_rfl))) (by kernel_rfl)
  ·refine ok_run 5 (p' := (atN 1 (ctl1 g11p8))) (env' := [(4, .nils), (12, .bool false), (0, .str a0), (12, .bool (!x0_1))]) (H' := (mkH [])) (by kernel_rfl) ?_
   refine ok_own [] 4 3 rfl (by kernel_rfl) ?_
   refine ok_env (env' := [(4, .own 0 (([] : List S28)).length 3), (4, .nils), (12, .bool false), (0, .str a0), (12, .bool (!x0_1))]) (by kernel_rfl) ?_
   refine ok_heap (H' := (mkH [⟨(([] : List S28)).flatMap e29, 0, false⟩])) (by kernel_rfl) ?_
   let E4 : Env := [(5, .int .i64 0), (4, .own 0 (([] : List S28)).length 3), (4, .nils), (12, .bool false), (0, .str a0), (12, .bool (!x0_1))]
   refine ok_run 9 (p' := g11p10) (env' := E4) (H' := (mkH [⟨(([] : List S28)).flatMap e29, 0, false⟩])) (by kernel_rfl) ?_
   refine ok_keep [0, 4, 5] (env' := [(0, .str a0), (4, .own 0 (([] : List S28)).length 3), (5, .int .i64 0)]) (by kernel_rfl) ?_
   exact (g11_l4_ok k a0 k) 0 ([] : List S28)
end
end Go.Proofs.Ytokcjgjgojlhbaa.Am
set_option maxRecDepth 100000
set_option linter.unusedVariables false
set_option linter.unusedSimpArgs false
namespace Go.Proofs.Ytokcjgjgojlhbaa.Am
open Go
theorem one_at {k : Nat} {s : List Nat} (hk : s.length + 40 < k) (hs : By s) (hl : Sz s) (hne : s ≠ []) : g20 k s = some (((oneN s).1 : Int), ((oneN s).2 : Int)) := by
 have hl' := hl
 unfold Sz at hl
 obtain ⟨c, r, rfl⟩ : ∃ c r, s = c :: r := List.exists_cons_of_ne_nil hne
 unfold g20
 have n0 : nthS (c :: r) 0 = some (c : Int) := nthX (i := 0) rfl rfl
 have c256 := hs.head
 refine bS (by (try simp (disch := omega) only [fwI]); exact n0) ?_
 simp only [oneN]
 by_cases h37 : c = 37
 ·subst h37
  rw [if_pos rfl]
  refine iT rfl ?_
  refine bS (by (try simp (disch := omega) only [fwI]); exact snote_at (by omega) hs hl' rfl) ?_
  rfl
 rw [if_neg h37]
 refine iF (dF (by omega)) ?_
 by_cases h46 : c = 46 ∧ dotN r = true
 ·rw [if_pos h46]
  refine (jS (v := true) (fun j => ?_)).trans rfl
  obtain ⟨rfl, hd⟩ := h46
  refine iT rfl ?_
  cases r with
  | nil => rfl
  | cons d q =>
   have n1 : nthS (46 :: d :: q) 1 = some (d : Int) := nthX (i := 1) rfl rfl
   have d256 := hs.tail.head
   simp only [List.length_cons]
   refine iF (by first | (simp (disch := omega) only [↓reduceIte, ↓jn, gsL]; done) | rfl) ?_
   refine bS (by (try simp (disch := omega) only [fwI]); exact n1) ?_
   refine bS (by (try simp (disch := omega) only [fwI]); exact blank_at k d256) ?_
   simp only [dotN] at hd
   cases hb : blkN d with
   | true => rfl
   | false =>
    rw [hb, Bool.false_or, decide_eq_true_eq] at hd
    refine iF rfl ?_
    refine bS (by (try simp (disch := omega) only [fwI]); exact n1) ?_
    rw [dT (by omega)]
 ·rw [if_neg h46]
  refine (jS (v := false) (fun j => ?_)).trans ?_
  ·by_cases hc : c = 46
   ·subst hc
    refine iT rfl ?_
    have hd : ¬ dotN r = true := fun h => h46 ⟨rfl, h⟩
    cases r with
    | nil => exact absurd rfl hd
    | cons d q =>
     have n1 : nthS (46 :: d :: q) 1 = some (d : Int) := nthX (i := 1) rfl rfl
     have d256 := hs.tail.head
     simp only [dotN, Bool.or_eq_true, decide_eq_true_eq, not_or] at hd
     simp only [List.length_cons]
     refine iF (by first | (simp (disch := omega) only [↓reduceIte, ↓jn, gsL]; done) | rfl) ?_
     refine bS (by (try simp (disch := omega) only [fwI]); exact n1) ?_
     refine bS (by (try simp (disch := omega) only [fwI]); exact blank_at k d256) ?_
     refine iF (by simpa using hd.1) ?_
     refine bS (by (try simp (disch := omega) only [fwI]); exact n1) ?_
     rw [dF (by omega)]
   ·refine iF (dF (by omega)) rfl
  ·refine iF rfl ?_
   by_cases h39 : c = 39
   ·subst h39
    rw [if_pos rfl]
    refine iT rfl ?_
    refine bS (by (try simp (disch := omega) only [fwI]); exact quoted_at (by omega) hs hl' rfl (.inl rfl)) ?_
    rfl
   rw [if_neg h39]
   refine iF (dF (by omega)) ?_
   by_cases h34 : c = 34
   ·subst h34
    rw [if_pos rfl]
    refine iT rfl ?_
    refine bS (by (try simp (disch := omega) only [fwI]); exact quoted_at (by omega) hs hl' rfl (.inr rfl)) ?_
    rfl
   rw [if_neg h34]
   refine iF (dF (by omega)) ?_
   by_cases h36 : c = 36
   ·subst h36
    rw [if_pos rfl]
    refine iT rfl ?_
    refine bS (by (try simp (disch := omega) only [fwI]); exact char_at (by omega) hs hl' rfl) ?_
    rfl
   rw [if_neg h36]
   refine iF (dF (by omega)) ?_
   by_cases h63 : c = 63
   ·subst h63
    rw [if_pos rfl]
    refine iT rfl ?_
    refine bS (by (try simp (disch := omega) only [fwI]); exact macro_at (by omega) hs hl' rfl) ?_
    rfl
   rw [if_neg h63]
   refine iF (dF (by omega)) ?_
   refine bS (by (try simp (disch := omega) only [fwI]); exact begins_at37 k c256) ?_
   by_cases h3 : begN c = 3
   ·rw [if_pos h3]
    refine iT (dT (by omega)) ?_
    refine bS (by (try simp (disch := omega) only [fwI]); exact number_at (by omega) (by omega) hs hl') ?_
    rfl
   rw [if_neg h3]
   refine iF (dF (by omega)) ?_
   by_cases h12 : begN c = 1 ∨ begN c = 2
   ·rw [if_pos h12]
    refine (jS (v := true) (fun j => ?_)).trans ?_
    ·rcases h12 with h | h
     ·refine iT (dT (by omega)) rfl
     ·refine iF (dF (by omega)) ?_
      rw [dT (by omega)]
    ·refine iT rfl ?_
     refine bS (by (try simp (disch := omega) only [fwI]); exact sinner_at (by omega) hs hl') ?_
     have il := innN_le (c :: r)
     refine bS (by (try simp (disch := omega) only [fwI]); exact subTo (s := c :: r) (x := (innN (c :: r) : Int)) (i := innN (c :: r)) rfl il) ?_
     refine bS (by (try simp (disch := omega) only [fwI]); exact reserved_at k _) ?_
     cases rsvN ((c :: r).take (innN (c :: r))) <;> rfl
   ·rw [if_neg h12]
    refine (jS (v := false) (fun j => ?_)).trans ?_
    ·refine iF (dF (by omega)) ?_
     rw [dF (by omega)]
    ·refine iF rfl ?_
     refine bS (by (try simp (disch := omega) only [fwI]); exact longest_at k (s := c :: r) (by simp)) ?_
     rfl
theorem One_at {k : Nat} {s : List Nat} (hk : s.length + 40 < k) (hs : By s) (hl : Sz s) {a : Nat} (ha : a < s.length) : g14 k s (a : Int) = some (oneAt s a) := by
 have hl' := hl
 unfold Sz at hl
 unfold g14 oneAt
 refine (jS (v := false) (fun j => by simp (disch := omega) only [↓reduceIte, ↓jn, gsL])).trans ?_
 refine iF rfl ?_
 refine bS (by (try simp (disch := omega) only [fwI]); exact subFrom (s := s) (x := (a : Int)) (i := a) rfl (by omega)) ?_
 have hne : s.drop a ≠ [] := drop_lt ha
 refine bS (by (try simp (disch := omega) only [fwI]); exact one_at (s := s.drop a) (by rw [List.length_drop]; omega) (hs.drop a) (by unfold Sz; rw [List.length_drop]; omega) hne) ?_
 have ol := oneN_le (s.drop a)
 rw [List.length_drop] at ol
 by_cases h0 : (oneN (s.drop a)).1 = 0
 ·rw [if_pos h0]
  refine iT (dT (by omega)) rfl
 ·rw [if_neg h0]
  refine iF (dF (by omega)) ?_
  rw [fw_a (by omega) (by omega)]
  refine bS (by (try simp (disch := omega) only [fwI]); exact subMid (s := s) (x := (a : Int)) (y := ((a + (oneN (s.drop a)).1 : Nat) : Int)) (i := a) (j := a + (oneN (s.drop a)).1) rfl rfl (by omega) (by omega)) ?_
  rw [List.drop_take, Nat.add_sub_cancel_left]
  rfl
theorem One_out {k : Nat} {s : List Nat} {a : Int} (h : a < 0 ∨ (s.length : Int) ≤ a) : g14 k s a = some (tok0, 4) := by
 unfold g14
 refine (jS (v := true) (fun j => ?_)).trans rfl
 rcases h with h | h
 ·refine iT (dT h) rfl
 ·by_cases h1 : a < 0
  ·refine iT (dT h1) rfl
  ·refine iF (dF h1) ?_
   rw [dT h]
theorem scan_l (k : Nat) {s : List Nat} (hk : s.length + 40 < k) (hs : By s) (hl : Sz s) (h16 : s.length ≤ 65536) : ∀ (d f a : Nat) (acc : List S28), s.length < a + d → d < f → a ≤ s.length → acc.length ≤ a → g11_l4 k s f (a : Int) acc = some (match toksN s d a with | some l => (acc ++ l.map (mkTok s), 0) | none => ([], 4))
 | 0, f, a, acc, h, hf, ha, hacc => by omega
 | d + 1, f, a, acc, h, hf, ha, hacc => by
  have hl' := hl
  unfold Sz at hl
  obtain ⟨f, rfl⟩ : ∃ f', f = f' + 1 := ⟨f - 1, by omega⟩
  rw [g11_l4_s]
  have sl := skipN_le (s.drop a)
  rw [List.length_drop] at sl
  refine bS (by (try simp (disch := omega) only [fwI]); exact sblank_at (by omega) hs hl' ha) ?_
  unfold toksN
  have hab : a ≤ a + skipN (s.drop a) := Nat.le_add_right _ _
  have hbl : a + skipN (s.drop a) ≤ s.length := by omega
  generalize a + skipN (s.drop a) = b at *
  by_cases hb : s.length ≤ b
  ·rw [if_pos hb]
   refine iT (dT (by omega)) ?_
   simp only [List.map_nil, List.append_nil]
  ·rw [if_neg hb]
   refine iF (dF (by omega)) ?_
   refine bS (by (try simp (disch := omega) only [fwI]); exact One_at hk hs hl' (a := b) (by omega)) ?_
   have ol := oneN_le (s.drop b)
   rw [List.length_drop] at ol
   unfold oneAt
   by_cases h0 : (oneN (s.drop b)).1 = 0
   ·rw [if_pos h0, if_pos h0]; rfl
   ·rw [if_neg h0, if_neg h0]
    refine iF rfl ?_
    have ap : appS 32 acc [mkTok s ((oneN (s.drop b)).2, b, (oneN (s.drop b)).1)] = some (acc ++ [mkTok s ((oneN (s.drop b)).2, b, (oneN (s.drop b)).1)]) := by
     unfold appS
     rw [if_pos (by simp only [List.length_cons, List.length_nil]; omega)]
    refine bS (by (try simp (disch := omega) only [fwI]); exact ap) ?_
    have tl : ((s.drop b).take (oneN (s.drop b)).1).length = (oneN (s.drop b)).1 := by
     rw [List.length_take, List.length_drop]; omega
    show g11_l4 k s f (fwrap .i64 ((b : Int) + (((s.drop b).take (oneN (s.drop b)).1).length : Int))) _ = _
    rw [tl, fw_a (by omega) (by omega)]
    have hpos : 0 < (oneN (s.drop b)).1 := Nat.pos_of_ne_zero h0
    refine (scan_l k hk hs hl' h16 d f (b + (oneN (s.drop b)).1) _ (by omega) (by omega) (by omega) (by rw [List.length_append]; simp only [List.length_cons, List.length_nil]; omega)).trans ?_
    cases toksN s d (b + (oneN (s.drop b)).1) with
    | none => rfl
    | some l => simp only [Option.map_some, List.map_cons, List.append_assoc, List.singleton_append]
theorem scan_at {k : Nat} {s : List Nat} (hk : s.length + 40 < k) (hs : By s) (hl : Sz s) : g11 k s = some (scanN s) := by
 have hl' := hl
 unfold Sz at hl
 unfold g11 scanN
 by_cases h16 : 65536 < s.length
 ·rw [if_pos h16]
  refine iT (dT (by omega)) rfl
 ·rw [if_neg h16]
  refine iF (dF (by omega)) ?_
  refine bS (by (try simp (disch := omega) only [fwI]); exact valid_at18 (by omega) hs hl') ?_
  cases hv : vld s.length s with
  | false => rfl
  | true =>
   refine iF rfl ?_
   refine (scan_l k hk hs hl' (by omega) (s.length + 1) k 0 [] (by omega) (by omega) (by omega) (Nat.le_refl _)).trans ?_
   simp only [Bool.true_eq_false, if_false]
   cases toksN s (s.length + 1) 0 <;> rfl
end Go.Proofs.Ytokcjgjgojlhbaa.Am
set_option maxRecDepth 100000
set_option linter.unusedVariables false
set_option linter.unusedSimpArgs false
namespace Go.Proofs.Ytokcjgjgojlhbaa.Am
open Go
theorem dg10 {c : Nat} (hc : c < 256) (h : dgN c < 10) : fwrap .i64 (fwrap .u8 ((c : Int) - 48)) = ((dgN c : Nat) : Int) := by
 have w := byteAll (f := fun c => !decide (dgN c < 10) || decide (fwrap .i64 (fwrap .u8 ((c : Int) - 48)) = ((dgN c : Nat) : Int))) (by decide +kernel) hc
 simpa [h] using w
theorem rwhole_e (k : Nat) {s : List Nat} (hk : s.length < k) (hs : By s) (hl : Sz s) (c8 : Unit → Option Int) {a m V n f : Nat} (hV : V ≤ 99) (h : a + m + 1 ≤ s.length) :
 g44_l6 k c8 s (a : Int) (n : Int) (m : Int) (f + 1) (V : Int) ((a + m : Nat) : Int) = if (2 ≤ V ∧ V ≤ 36) ∧ 0 < runN V false (s.drop (a + m + 1)) then some ((m + 1 + runN V false (s.drop (a + m + 1)) : Nat) : Int) else c8 () := by
 rw [g44_l6_s]
 have r := rrun_at hk hs hl hV h
 unfold Sz at hl
 have l := runN_le V false (s.drop (a + m + 1))
 rw [List.length_drop] at l
 have e : ((a : Int) + (m : Int)) = ((a + m : Nat) : Int) := by omega
 have e1 : (((a + m : Nat) : Int) + 1) = ((a + m + 1 : Nat) : Int) := by omega
 refine iF (by first | (simp (disch := omega) only [↓reduceIte, ↓jn, gsL]; done) | rfl) ?_
 rw [fwI (n := (a : Int) + (m : Int)) (by omega) (by omega), e, fwI (n := ((a + m : Nat) : Int) + 1) (by omega) (by omega), e1]
 refine bS (by (try simp (disch := omega) only [fwI]); exact r) ?_
 generalize runN V false (s.drop (a + m + 1)) = K at *
 clear r
 refine (jS (v := decide ((2 ≤ V ∧ V ≤ 36) ∧ 0 < K)) (fun j => ?_)).trans ?_
 ·by_cases h1 : 2 ≤ V
  ·by_cases h2 : V ≤ 36
   ·by_cases h3 : 0 < K
    ·simp (disch := omega) only [↓reduceIte, ↓jn, gsL, h1, h2, h3, and_self]
    ·simp (disch := omega) only [↓reduceIte, ↓jn, gsL, h1, h2, h3, and_self, and_false]
   ·simp (disch := omega) only [↓reduceIte, ↓jn, gsL, h1, h2, and_false, false_and]
  ·simp (disch := omega) only [↓reduceIte, ↓jn, gsL, h1, false_and]
 ·by_cases h0 : (2 ≤ V ∧ V ≤ 36) ∧ 0 < K
  ·rw [if_pos h0]
   refine iT (by first | (simp (disch := omega) only [↓reduceIte, ↓jn, gsL, h0]; done) | rfl) ?_
   simp (disch := omega) only [↓reduceIte, ↓jn, gsL]
   exact congrArg some (by omega)
  ·rw [if_neg h0]
   refine iF (by first | (simp (disch := omega) only [↓reduceIte, ↓jn, gsL, h0]; done) | rfl) ?_
   rfl
theorem rwhole_s (k : Nat) {s : List Nat} (hs : By s) (hl : Sz s) (c8 : Unit → Option Int) {a m V n f i c : Nat} {r : List Nat} (hc : s.drop i = c :: r) (hd : dgN c < 10) (hi : i < a + m) (ha : a + m ≤ s.length) (hV : V ≤ 9) :
 g44_l6 k c8 s (a : Int) (n : Int) (m : Int) (f + 1) (V : Int) (i : Int) = g44_l6 k c8 s (a : Int) (n : Int) (m : Int) f ((10 * V + dgN c : Nat) : Int) ((i + 1 : Nat) : Int) := by
 unfold Sz at hl
 rw [g44_l6_s]
 have c256 := hs c (drop_mem hc)
 refine iT (by first | (simp (disch := omega) only [↓reduceIte, ↓jn, gsL]; done) | rfl) ?_
 refine bS (by (try simp (disch := omega) only [fwI]); exact nthX rfl hc) ?_
 rw [dg10 c256 hd]
 have e1 : ((V : Int) * 10 + (dgN c : Nat)) = ((10 * V + dgN c : Nat) : Int) := by omega
 have e2 : ((i : Int) + 1) = ((i + 1 : Nat) : Int) := by omega
 simp (disch := omega) only [fwI]
 rw [e1, e2]
theorem rwhole_at {k : Nat} {s : List Nat} (hk : s.length < k) (hk3 : 4 ≤ k) (hs : By s) (hl : Sz s) {a : Nat} (ha : a ≤ s.length) : g44 k s (a : Int) = some ((wholeN (s.drop a) : Nat) : Int) := by
 have r1 : g59 k s (a : Int) 10 true = some ((runN 10 false (s.drop a) : Nat) : Int) := rrun_at hk hs hl (b := 10) (by decide) ha
 have r2 := rbar_at hk hs hl ha
 have hl' := hl
 unfold Sz at hl
 unfold g44
 refine bS (by (try simp (disch := omega) only [fwI]); exact r1) ?_
 refine bS (by (try simp (disch := omega) only [fwI]); exact r2) ?_
 obtain ⟨k', rfl⟩ : ∃ k', k = k' + 4 := ⟨k - 4, by omega⟩
 have bl := barN_le 10 (s.drop a)
 rw [List.length_drop] at bl
 have no : frontN (s.drop a) = (0, 10) → wholeN (s.drop a) = runN 10 false (s.drop a) := by
  intro h; unfold wholeN; rw [h]; rfl
 have yes : ∀ m V, frontN (s.drop a) = (m + 1, V) → wholeN (s.drop a) = if 0 < runN V false (s.drop (a + m + 1)) then m + 1 + runN V false (s.drop (a + m + 1)) else runN 10 false (s.drop a) := by
  intro m V h; unfold wholeN; rw [h]; simp only [List.drop_drop, Nat.add_assoc, Nat.succ_pos, true_and]
 clear r1 r2
 generalize hn : runN 10 false (s.drop a) = n at *
 cases ht : s.drop a with
 | nil =>
  rw [ht] at no
  rw [no rfl]
  refine (jS (v := false) (fun j => rfl)).trans ?_
  rfl
 | cons p r =>
  have hp := hs p (drop_mem ht)
  have tl := drop_len ht
  have dr := drop_step ht
  by_cases h1 : dgN p < 10
  ·cases hr : r with
   | nil =>
    rw [hr] at ht tl dr
    rw [ht] at no
    have e3 : barN 10 [p] = 1 := by simp only [barN, h1, if_true]
    rw [no rfl, e3]
    simp only [List.length_nil] at tl
    refine (jS (v := false) (fun j => by simp (disch := omega) only [↓reduceIte, ↓jn, gsL])).trans ?_
    rfl
   | cons q r' =>
    rw [hr] at ht tl dr
    have hq := hs q (drop_mem dr)
    have dr' := drop_step dr
    have tl' := drop_len dr
    by_cases h2 : dgN q < 10
    ·have hq35 : ¬ q = 35 := by intro h; rw [h] at h2; exact dg_35 h2
     cases hr' : r' with
     | nil =>
      rw [hr'] at ht tl dr dr'
      rw [ht] at no
      have e3 : barN 10 [p, q] = 2 := by simp only [barN, h1, h2, if_true]
      have e4 : frontN [p, q] = (0, 10) := by simp only [frontN, h1, h2, hq35, if_true, if_false]
      rw [no e4, e3]
      simp only [List.length_cons, List.length_nil] at tl
      refine (jS (v := false) (fun j => by simp (disch := omega) only [↓reduceIte, ↓jn, gsL])).trans ?_
      rfl
     | cons c r'' =>
      rw [hr'] at ht tl dr dr'
      have hc := hs c (drop_mem dr')
      by_cases h3 : dgN c < 10
      ·have hc35 : ¬ c = 35 := by intro h; rw [h] at h3; exact dg_35 h3
       have e3 : barN 10 (p :: q :: c :: r'') = barN 10 r'' + 3 := by simp only [barN, h1, h2, h3, if_true]
       have e4 : frontN (p :: q :: c :: r'') = (0, 10) := by simp only [frontN, h1, h2, hq35, hc35, if_true, if_false, false_and]
       rw [ht] at no
       rw [no e4, e3]
       refine (jS (v := false) (fun j => by simp (disch := omega) only [↓reduceIte, ↓jn, gsL])).trans ?_
       rfl
      ·have e3 : barN 10 (p :: q :: c :: r'') = 2 := by simp only [barN, h1, h2, h3, if_true, if_false]
       have nc : nthS s ((a : Int) + ((2 : Nat) : Int)) = some (c : Int) := nthX (by omega) dr'
       simp only [List.length_cons] at tl
       by_cases hc35 : c = 35
       ·subst hc35
        have go := rwhole_e (k' + 4) hk hs hl' (n := n) (a := a) (m := 2) (f := k' + 1) (V := 10 * (10 * 0 + dgN p) + dgN q)
        have st1 := fun c8 => rwhole_s (k' + 4) hs hl' c8 (n := n) (a := a) (m := 2) (f := k' + 3) (V := 0) ht h1 (by omega) (by omega) (by omega)
        have st2 := fun c8 => rwhole_s (k' + 4) hs hl' c8 (n := n) (a := a) (m := 2) (f := k' + 2) (V := 10 * 0 + dgN p) dr h2 (by omega) (by omega) (by omega)
        rw [show 10 * 0 + dgN p = dgN p by omega] at *
        rw [e3]
        refine (jS (v := true) (fun j => ?_)).trans ?_
        ·simp (disch := omega) only [↓reduceIte, ↓jn, gsL, nc]
        ·by_cases hf : 2 ≤ 10 * dgN p + dgN q ∧ 10 * dgN p + dgN q ≤ 36
         ·have e4 : frontN (p :: q :: 35 :: r'') = (2 + 1, 10 * dgN p + dgN q) := by simp only [frontN, h1, h2, hq35, hf, if_true, if_false, and_self]
          rw [ht] at yes
          rw [yes 2 _ e4]
          by_cases hK : 0 < runN (10 * dgN p + dgN q) false (s.drop (a + 2 + 1))
          ·refine jC fun j => ?_
           refine iT (by first | (simp (disch := omega) only [↓reduceIte, ↓jn, gsL]; done) | rfl) ?_
           refine (st1 j).trans ((st2 j).trans ((go j (by omega) (by omega)).trans ?_))
           rw [if_pos ⟨hf, hK⟩, if_pos hK]
          ·refine (jS (v := ()) (fun j => ?_)).trans ?_
           ·refine iT (by first | (simp (disch := omega) only [↓reduceIte, ↓jn, gsL]; done) | rfl) ?_
            refine (st1 j).trans ((st2 j).trans ((go j (by omega) (by omega)).trans ?_))
            rw [if_neg (fun h => hK h.2)]
           ·rw [if_neg hK]
         ·have e4 : frontN (p :: q :: 35 :: r'') = (0, 10) := by simp only [frontN, h1, h2, hq35, if_true, if_false, true_and, hf]
          rw [ht] at no
          rw [no e4]
          refine (jS (v := ()) (fun j => ?_)).trans rfl
          refine iT (by first | (simp (disch := omega) only [↓reduceIte, ↓jn, gsL]; done) | rfl) ?_
          refine (st1 j).trans ((st2 j).trans ((go j (by omega) (by omega)).trans ?_))
          rw [if_neg (fun h => hf h.1)]
       ·have e4 : frontN (p :: q :: c :: r'') = (0, 10) := by simp only [frontN, h1, h2, hq35, hc35, if_true, if_false, false_and]
        rw [ht] at no
        rw [no e4, e3]
        refine (jS (v := false) (fun j => by simp (disch := omega) only [↓reduceIte, ↓jn, gsL, nc])).trans ?_
        rfl
    ·have e3 : barN 10 (p :: q :: r') = 1 := by simp only [barN, h1, h2, if_true, if_false]
     have nc : nthS s ((a : Int) + ((1 : Nat) : Int)) = some (q : Int) := nthX (by omega) dr
     simp only [List.length_cons] at tl
     by_cases hq35 : q = 35
     ·subst hq35
      have go := rwhole_e (k' + 4) hk hs hl' (n := n) (a := a) (m := 1) (f := k' + 2) (V := 10 * 0 + dgN p)
      have st1 := fun c8 => rwhole_s (k' + 4) hs hl' c8 (n := n) (a := a) (m := 1) (f := k' + 3) (V := 0) ht h1 (by omega) (by omega) (by omega)
      rw [show 10 * 0 + dgN p = dgN p by omega] at *
      rw [e3]
      refine (jS (v := true) (fun j => ?_)).trans ?_
      ·simp (disch := omega) only [↓reduceIte, ↓jn, gsL, nc]
      ·by_cases hf : 2 ≤ dgN p
       ·have e4 : frontN (p :: 35 :: r') = (1 + 1, dgN p) := by simp only [frontN, h1, hf, if_true]
        rw [ht] at yes
        rw [yes 1 _ e4]
        by_cases hK : 0 < runN (dgN p) false (s.drop (a + 1 + 1))
        ·refine jC fun j => ?_
         refine iT (by first | (simp (disch := omega) only [↓reduceIte, ↓jn, gsL]; done) | rfl) ?_
         refine (st1 j).trans ((go j (by omega) (by omega)).trans ?_)
         rw [if_pos ⟨⟨hf, by omega⟩, hK⟩, if_pos hK]
        ·refine (jS (v := ()) (fun j => ?_)).trans ?_
         ·refine iT (by first | (simp (disch := omega) only [↓reduceIte, ↓jn, gsL]; done) | rfl) ?_
          refine (st1 j).trans ((go j (by omega) (by omega)).trans ?_)
          rw [if_neg (fun h => hK h.2)]
         ·rw [if_neg hK]
       ·have e4 : frontN (p :: 35 :: r') = (0, 10) := by simp only [frontN, h1, hf, if_true, if_false]
        rw [ht] at no
        rw [no e4]
        refine (jS (v := ()) (fun j => ?_)).trans rfl
        refine iT (by first | (simp (disch := omega) only [↓reduceIte, ↓jn, gsL]; done) | rfl) ?_
        refine (st1 j).trans ((go j (by omega) (by omega)).trans ?_)
        rw [if_neg (fun h => hf h.1.1)]
     ·have e4 : frontN (p :: q :: r') = (0, 10) := by simp only [frontN, h1, h2, hq35, if_true, if_false]
      rw [ht] at no
      rw [no e4, e3]
      refine (jS (v := false) (fun j => by simp (disch := omega) only [↓reduceIte, ↓jn, gsL, nc])).trans ?_
      rfl
  ·have e4 : frontN (p :: r) = (0, 10) := by cases r <;> simp only [frontN, h1, if_false]
   have e3 : barN 10 (p :: r) = 0 := by simp only [barN, h1, if_false]
   rw [ht] at no
   rw [no e4, e3]
   refine (jS (v := false) (fun j => rfl)).trans rfl
theorem rbroken_at {k : Nat} {s : List Nat} (hk : s.length < k) (hs : By s) (hl : Sz s) {a : Nat} (ha : a ≤ s.length) : g43 k s (a : Int) = some ((partN (s.drop a) : Nat) : Int) := by
 have R : ∀ i, i ≤ s.length → g59 k s (i : Int) 10 true = some ((runN 10 false (s.drop i) : Nat) : Int) := fun i hi => rrun_at hk hs hl (b := 10) (by decide) hi
 unfold Sz at hl
 unfold g43 partN
 have r0 := R a ha
 have l0 := runN_le 10 false (s.drop a)
 rw [List.length_drop] at l0
 refine bS (by (try simp (disch := omega) only [fwI]); exact r0) ?_
 rw [List.drop_drop]
 generalize runN 10 false (s.drop a) = n at *
 clear r0
 by_cases h0 : n = 0
 ·subst h0
  refine (jS (v := true) (fun j => ?_)).trans rfl
  have e : fwrap .i64 ((a : Int) + ((0 : Nat) : Int)) = (a : Int) := by rw [fwI (by omega) (by omega)]; omega
  rw [e]
  simp (disch := omega) only [↓reduceIte, ↓jn, gsL]
 rcases Nat.lt_or_ge (a + n) s.length with hn | hn
 ·obtain ⟨c, r, hc, hr, hm, hrl⟩ := dcons hn
  have nc : nthS s ((a : Int) + (n : Int)) = some (c : Int) := nthX (by omega) hc
  have na : ¬ (a : Int) + (n : Int) = a := by omega
  by_cases h46 : c = 46
  ·subst h46
   refine (jS (v := false) (fun j => by simp (disch := omega) only [↓reduceIte, ↓jn, gsL, nc, na])).trans ?_
   refine iF (by first | (simp (disch := omega) only [↓reduceIte, ↓jn, gsL]; done) | rfl) ?_
   have r1 := R (a + n + 1) (by omega)
   have l1 := runN_le 10 false r
   rw [hr] at r1
   have a1 : ∀ j, s.drop (a + n + 1 + j) = r.drop j := by intro j; rw [← List.drop_drop, hr]
   have e1 : fwrap .i64 (fwrap .i64 ((a : Int) + (n : Int)) + 1) = ((a + n + 1 : Nat) : Int) := by rw [fwI (n := (a : Int) + (n : Int)) (by omega) (by omega), fwI (by omega) (by omega)]; omega
   simp only [hc, fracN, h0, if_true, if_false]
   rw [e1]
   refine bS (by (try simp (disch := omega) only [fwI]); exact r1) ?_
   generalize runN 10 false r = m at *
   by_cases m0 : m = 0
   ·refine iT (by first | (simp (disch := omega) only [↓reduceIte, ↓jn, gsL, m0]; done) | rfl) ?_
    rw [if_pos m0]; rfl
   ·refine iF (by first | (simp (disch := omega) only [↓reduceIte, ↓jn, gsL]; done) | rfl) ?_
    rw [if_neg m0]
    rcases Nat.lt_or_ge (a + n + 1 + m) s.length with h1 | h1
    ·obtain ⟨e, q, he, hq, hem, hql⟩ := dcons h1
     have he' := he
     rw [a1] at he'
     have ne : nthS s (((a + n + 1 : Nat) : Int) + m) = some (e : Int) := nthX (by omega) he
     rw [he']
     by_cases hE : e = 101 ∨ e = 69
     ·simp only [expN, hE, if_true]
      refine (jS (v := true) (fun j => ?_)).trans ?_
      ·rcases hE with rfl | rfl <;> simp (disch := omega) only [↓reduceIte, ↓jn, gsL, ne]
      have hs' := sgn_le q
      have dd : s.drop (a + n + 1 + m + 1 + sgn q) = q.drop (sgn q) := by rw [← List.drop_drop, hq]
      have o1 := R (a + n + 1 + m + 1 + sgn q) (by omega)
      rw [dd] at o1
      have o3 : runN 10 false (q.drop (sgn q)) ≤ q.length - sgn q := by
       have := runN_le 10 false (q.drop (sgn q))
       rwa [List.length_drop] at this
      generalize hz : runN 10 false (q.drop (sgn q)) = z at *
      have fin : ∀ (x y : Int) (j : Int → Option Int), x = ((a + n + 1 + m + 1 + sgn q : Nat) : Int) → ((g59 k s x 10 true).bind fun x5_2 => if decide (0 < x5_2) then j (fwrap .i64 (x + x5_2)) else j y) = if 0 < z then j (x + z) else j y := by
       intro x y j hx
       subst hx
       refine bS (by (try simp (disch := omega) only [fwI]); exact o1) ?_
       by_cases h : 0 < z
       ·rw [if_pos h]; refine iT (by first | (simp (disch := omega) only [↓reduceIte, ↓jn, gsL]; done) | rfl) ?_; rw [fwI (by omega) (by omega)]
       ·rw [if_neg h]; refine iF (by first | (simp (disch := omega) only [↓reduceIte, ↓jn, gsL]; done) | rfl) ?_; rfl
      refine (jS (v := if 0 < z then ((a + n + 1 + m + 1 + sgn q + z : Nat) : Int) else ((a + n + 1 + m : Nat) : Int)) (fun j => ?_)).trans ?_
      ·refine iT (by first | (simp (disch := omega) only [↓reduceIte, ↓jn, gsL]; done) | rfl) ?_
       have key : ∀ b : Nat, b = sgn q → (jn (fun (z10 : Int) => (g59 k s z10 10 true).bind fun x5_2 => if (decide (0 < x5_2)) then (j (fwrap .i64 (z10 + x5_2))) else (j (fwrap .i64 (((a + n + 1 : Nat) : Int) + m)))) (fun j10 => if decide (b = 1) then (j10 (fwrap .i64 (fwrap .i64 (fwrap .i64 (((a + n + 1 : Nat) : Int) + m) + 1) + 1))) else (j10 (fwrap .i64 (fwrap .i64 (((a + n + 1 : Nat) : Int) + m) + 1))))) = j (if 0 < z then ((a + n + 1 + m + 1 + sgn q + z : Nat) : Int) else ((a + n + 1 + m : Nat) : Int)) := by
        intro b hb
        refine (jS (v := ((a + n + 1 + m + 1 + sgn q : Nat) : Int)) (fun j => ?_)).trans ?_
        ·have hb01 : b = 0 ∨ b = 1 := by
          rw [hb]; unfold sgn; split
          ·split <;> simp
          ·simp
         rcases hb01 with rfl | rfl
         ·simp (disch := omega) only [↓reduceIte, ↓jn, gsL]
          exact congrArg j (by omega)
         ·simp (disch := omega) only [↓reduceIte, ↓jn, gsL]
          exact congrArg j (by omega)
        ·refine (fin _ _ j rfl).trans ?_
         by_cases h : 0 < z
         ·rw [if_pos h, if_pos h]; exact congrArg j (by omega)
         ·rw [if_neg h, if_neg h]; rw [fwI (by omega) (by omega)]; exact congrArg j (by omega)
       cases q with
       | nil =>
        simp only [List.length_nil] at hql
        refine (jS (v := false) (fun j => ?_)).trans ?_
        ·simp (disch := omega) only [↓reduceIte, ↓jn, gsL]
        ·exact key 0 rfl
       | cons d q =>
        simp only [List.length_cons] at hql
        have nd : nthS s (((a + n + 1 : Nat) : Int) + m + 1) = some (d : Int) := nthX (i := a + n + 1 + m + 1) (by omega) hq
        by_cases hd : d = 43 ∨ d = 45
        ·refine (jS (v := true) (fun j => ?_)).trans ?_
         ·rcases hd with rfl | rfl <;> simp (disch := omega) only [↓reduceIte, ↓jn, gsL, nd]
         ·exact key 1 (by simp only [sgn, hd, if_true])
        ·have d1 : ¬ (d : Int) = 43 := by omega
         have d2 : ¬ (d : Int) = 45 := by omega
         refine (jS (v := false) (fun j => ?_)).trans ?_
         ·simp (disch := omega) only [↓reduceIte, ↓jn, gsL, nd, d1, d2]
         ·exact key 0 (by simp only [sgn, hd, if_false])
      ·by_cases h : 0 < z
       ·rw [if_pos h, if_pos h]; simp (disch := omega) only [↓reduceIte, ↓jn, gsL]; exact congrArg some (by omega)
       ·rw [if_neg h, if_neg h]; simp (disch := omega) only [↓reduceIte, ↓jn, gsL]; exact congrArg some (by omega)
     ·have e1 : ¬ (e : Int) = 101 := by omega
      have e2 : ¬ (e : Int) = 69 := by omega
      simp only [expN, hE, if_false]
      refine (jS (v := false) (fun j => by simp (disch := omega) only [↓reduceIte, ↓jn, gsL, ne, e1, e2])).trans ?_
      refine (jS (v := ((a + n + 1 + m : Nat) : Int)) (fun j => ?_)).trans ?_
      ·refine iF (by first | (simp (disch := omega) only [↓reduceIte, ↓jn, gsL]; done) | rfl) ?_
       rw [fwI (by omega) (by omega)]; exact congrArg j (by omega)
      ·simp (disch := omega) only [↓reduceIte, ↓jn, gsL]
       exact congrArg some (by omega)
    ·have he : r.drop m = [] := by rw [← a1]; exact dnil h1
     simp only [he, expN]
     refine (jS (v := false) (fun j => by simp (disch := omega) only [↓reduceIte, ↓jn, gsL])).trans ?_
     refine (jS (v := ((a + n + 1 + m : Nat) : Int)) (fun j => ?_)).trans ?_
     ·refine iF (by first | (simp (disch := omega) only [↓reduceIte, ↓jn, gsL]; done) | rfl) ?_
      rw [fwI (by omega) (by omega)]; exact congrArg j (by omega)
     ·simp (disch := omega) only [↓reduceIte, ↓jn, gsL]
      exact congrArg some (by omega)
  ·have c46 : ¬ (c : Int) = 46 := by omega
   refine (jS (v := true) (fun j => by simp (disch := omega) only [↓reduceIte, ↓jn, gsL, nc, na, c46])).trans ?_
   refine iT (by first | (simp (disch := omega) only [↓reduceIte, ↓jn, gsL]; done) | rfl) ?_
   rw [hc]
   simp only [fracN, h0, h46, if_false]; rfl
 ·refine (jS (v := true) (fun j => by simp (disch := omega) only [↓reduceIte, ↓jn, gsL])).trans ?_
  refine iT (by first | (simp (disch := omega) only [↓reduceIte, ↓jn, gsL]; done) | rfl) ?_
  rw [dnil hn]
  simp only [fracN, h0, if_false]; rfl
end Go.Proofs.Ytokcjgjgojlhbaa.Am
set_option maxRecDepth 100000
set_option linter.unusedVariables false
namespace Go.Proofs.Ytokcjgjgojlhbaa.Am
noncomputable section
open Go
def X17 : Fx Int := ⟨Try.prog, cx, Try.f17, fun r => .int .i64 r, 0, fun _ => H0, cxTi, cxOrd⟩
def g17p0 : Pt := nav [0] (bodyAt Try.f17)
def g17p1 : Pt := nav [0, 0, 0, 0, 0] g17p0
def g17p2 : Pt := nav [0, 0, 0] g17p1
def g17p3 : Pt := nav [0, 0] g17p2
def g17_l1 (k : Nat)  (a0 : (List Nat)) (n : Nat) : Int → Option Int :=
 Nat.rec (motive := fun _ => Int → Option Int) (fun _ => none) (fun _ ih => fun (y1_0 : Int) => jn (fun (z2 : Bool × Int) => if z2.1 then (ih (fwrap .i64 (z2.2 + 1))) else (some z2.2)) (fun j2 => if (decide (y1_0 < (a0.length : Int))) then ((nthS a0 y1_0).bind fun x0_7 => if (decide (x0_7 = 32)) then (j2 (true, y1_0)) else ((nthS a0 y1_0).bind fun x0_12 => if (decide (x0_12 = 9)) then (j2 (true, y1_0)) else ((nthS a0 y1_0).bind fun x0_18 => if (decide (x0_18 = 10)) then (j2 (true, y1_0)) else ((nthS a0 y1_0).bind fun x0_24 => j2 (decide (x0_24 = 13), y1_0))))) else (j2 (false, y1_0)))) n
theorem g17_l1_s (k : Nat)  (a0 : (List Nat)) (n : Nat) (y1_0 : Int) : g17_l1 k a0 (n + 1) y1_0 = (jn (fun (z2 : Bool × Int) => if z2.1 then ((g17_l1 k a0 n) (fwrap .i64 (z2.2 + 1))) else (some z2.2)) (fun j2 => if (decide (y1_0 < (a0.length : Int))) then ((nthS a0 y1_0).bind fun x0_7 => if (decide (x0_7 = 32)) then (j2 (true, y1_0)) else ((nthS a0 y1_0).bind fun x0_12 => if (decide (x0_12 = 9)) then (j2 (true, y1_0)) else ((nthS a0 y1_0).bind fun x0_18 => if (decide (x0_18 = 10)) then (j2 (true, y1_0)) else ((nthS a0 y1_0).bind fun x0_24 => j2 (decide (x0_24 = 13), y1_0))))) else (j2 (false, y1_0)))) := rfl
theorem g17_l1_ok (k : Nat)  (a0 : (List Nat))  : ∀ (n : Nat) (y1_0 : Int), Ok X17 g17p1 [(0, .str a0), (1, .int .i64 y1_0)] (mkH []) (g17_l1 k a0 n y1_0)
 | 0, _ => ok_none
 | n + 1, y1_0 => by
  have ih := g17_l1_ok k a0 n
  rw [g17_l1_s]
  refine ok_ent (p' := nav [0] g17p1) (by kernel_rfl) ?_
  let E1 : Env := [(9, .bool (decide (y1_0 < (a0.length : Int)))), (8, .bool (decide (y1_0 < (a0.length : Int)))), (7, .int .i64 (a0.length : Int)), (6, .str a0), (5, .int .i64 y1_0), (0, .str a0), (1, .int .i64 y1_0)]
  refine ok_run 8 (p' := (atN 5 (ctl1 g17p2))) (env' := E1) (H' := (mkH [])) (by kernel_rfl) ?_
  refine ok_jn (f := fun (z2 : Bool × Int) => if z2.1 then ((g17_l1 k a0 n) (fwrap .i64 (z2.2 + 1))) else (some z2.2)) g17p3 (fun (z2 : Bool × Int) => [(0, .str a0), (1, .int .i64 z2.2), (32, .bool z2.1)]) (fun (z2 : Bool × Int) => (mkH [])) (fun z2 => ?_) (fun j2 hj2 => ?_)
  ·refine ok_split 32 (b := z2.1) (by kernel_rfl) (fun hb => ?_) (fun hb => ?_)
   ·let E2 : Env := [(1, .int .i64 (fwrap .i64 (z2.2 + 1))), (34, .int .i64 (fwrap .i64 (z2.2 + 1))), (33, .int .i64 z2.2), (32, .bool true), (0, .str a0), (1, .int .i64 z2.2), (32, .bool z2.1)]
    refine ok_run 8 (p' := g17p1) (env' := E2) (H' := (mkH [])) (by kernel_rfl) ?_
    refine ok_keep [0, 1] (env' := [(0, .str a0), (1, .int .i64 (fwrap .i64 (z2.2 + 1)))]) (by kernel_rfl) ?_
    exact ih (fwrap .i64 (z2.2 + 1))
   ·let E3 : Env := [(4, .int .i64 z2.2), (35, .int .i64 z2.2), (32, .bool false), (0, .str a0), (1, .int .i64 z2.2), (32, .bool z2.1)]
    refine ok_run 8 (p' := .fin) (env' := E3) (H' := (mkH [])) (by kernel_rfl) ?_
    exact ok_ret (r := z2.2) (xs := [.int .i64 z2.2]) (v := .int .i64 z2.2) (by kernel_rfl) (by kernel_rfl) (by kernel_rfl) (.pures (by kernel_rfl)) (by kernel_rfl)
  ·refine ok_split 9 (b := decide (y1_0 < (a0.length : Int))) (by kernel_rfl) (fun hb => ?_) (fun hb => ?_)
   ·refine ok_run 2 (p' := (atN 7 (ctl1 g17p2))) (env' := ((11, .int .i64 y1_0) :: (10, .str a0) :: (9, .bool true) :: E1)) (H' := (mkH [])) (by kernel_rfl) ?_
    refine ok_chk (fun (x0_7 : Int) => (.int .u8 x0_7, (mkH []))) (atN 8 (ctl1 g17p2)) (fun x0_7 => ((12, .int .u8 x0_7) :: (11, .int .i64 y1_0) :: (10, .str a0) :: (9, .bool true) :: E1)) (idxH (by kernel_rfl)) (fun _ => by kernel_rfl) (fun x0_7 hx0_7 => ?_)
    let E4 : Env := ((14, .bool (decide (x0_7 = 32))) :: (13, .bool (decide (x0_7 = 32))) :: (12, .int .u8 x0_7) :: (11, .int .i64 y1_0) :: (10, .str a0) :: (9, .bool true) :: E1)
    refine ok_run 2 (p' := (atN 10 (ctl1 g17p2))) (env' := E4) (H' := (mkH [])) (by kernel_rfl) ?_
    refine ok_split 14 (b := decide (x0_7 = 32)) (by kernel_rfl) (fun hb => ?_) (fun hb => ?_)
    ·let E5 : Env := ((32, .bool true) :: (31, .bool true) :: (30, .tuple []) :: (29, .tuple []) :: (28, .tuple []) :: (27, .tuple []) :: (26, .bool true) :: (25, .bool true) :: (24, .tuple []) :: (23, .tuple []) :: (22, .tuple []) :: (21, .tuple []) :: (20, .bool true) :: (19, .bool true) :: (18, .tuple []) :: (17, .tuple []) :: (16, .tuple []) :: (15, .tuple []) :: (14, .bool true) :: E4)
     refine ok_run 19 (p' := g17p3) (env' := E5) (H' := (mkH [])) (by kernel_rfl) ?_
     refine ok_keep [0, 1, 32] (env' := [(0, .str a0), (1, .int .i64 y1_0), (32, .bool true)]) (by kernel_rfl) ?_
     exact hj2 (true, y1_0)
    ·refine ok_run 2 (p' := (atN 12 (ctl1 g17p2))) (env' := ((16, .int .i64 y1_0) :: (15, .str a0) :: (14, .bool false) :: E4)) (H' := (mkH [])) (by kernel_rfl) ?_
     refine ok_chk (fun (x0_12 : Int) => (.int .u8 x0_12, (mkH []))) (atN 13 (ctl1 g17p2)) (fun x0_12 => ((17, .int .u8 x0_12) :: (16, .int .i64 y1_0) :: (15, .str a0) :: (14, .bool false) :: E4)) (idxH (by kernel_rfl)) (fun _ => by kernel_rfl) (fun x0_12 hx0_12 => ?_)
     let E6 : Env := ((20, .bool (decide (x0_12 = 9))) :: (19, .bool (decide (x0_12 = 9))) :: (18, .bool (decide (x0_12 = 9))) :: (17, .int .u8 x0_12) :: (16, .int .i64 y1_0) :: (15, .str a0) :: (14, .bool false) :: E4)
     refine ok_run 3 (p' := (atN 16 (ctl1 g17p2))) (env' := E6) (H' := (mkH [])) (by kernel_rfl) ?_
     refine ok_split 20 (b := decide (x0_12 = 9)) (by kernel_rfl) (fun hb => ?_) (fun hb => ?_)
     ·let E7 : Env := ((32, .bool true) :: (31, .bool true) :: (30, .tuple []) :: (29, .tuple []) :: (28, .tuple []) :: (27, .tuple []) :: (26, .bool true) :: (25, .bool true) :: (24, .tuple []) :: (23, .tuple []) :: (22, .tuple []) :: (21, .tuple []) :: (20, .bool true) :: E6)
      refine ok_run 13 (p' := g17p3) (env' := E7) (H' := (mkH [])) (by kernel_rfl) ?_
      refine ok_keep [0, 1, 32] (env' := [(0, .str a0), (1, .int .i64 y1_0), (32, .bool true)]) (by kernel_rfl) ?_
      exact hj2 (true, y1_0)
     ·refine ok_run 2 (p' := (atN 18 (ctl1 g17p2))) (env' := ((22, .int .i64 y1_0) :: (21, .str a0) :: (20, .bool false) :: E6)) (H' := (mkH [])) (by kernel_rfl) ?_
      refine ok_chk (fun (x0_18 : Int) => (.int .u8 x0_18, (mkH []))) (atN 19 (ctl1 g17p2)) (fun x0_18 => ((23, .int .u8 x0_18) :: (22, .int .i64 y1_0) :: (21, .str a0) :: (20, .bool false) :: E6)) (idxH (by kernel_rfl)) (fun _ => by kernel_rfl) (fun x0_18 hx0_18 => ?_)
      let E8 : Env := ((26, .bool (decide (x0_18 = 10))) :: (25, .bool (decide (x0_18 = 10))) :: (24, .bool (decide (x0_18 = 10))) :: (23, .int .u8 x0_18) :: (22, .int .i64 y1_0) :: (21, .str a0) :: (20, .bool false) :: E6)
      refine ok_run 3 (p' := (atN 22 (ctl1 g17p2))) (env' := E8) (H' := (mkH [])) (by kernel_rfl) ?_
      refine ok_split 26 (b := decide (x0_18 = 10)) (by kernel_rfl) (fun hb => ?_) (fun hb => ?_)
      ·let E9 : Env := ((32, .bool true) :: (31, .bool true) :: (30, .tuple []) :: (29, .tuple []) :: (28, .tuple []) :: (27, .tuple []) :: (26, .bool true) :: E8)
       refine ok_run 7 (p' := g17p3) (env' := E9) (H' := (mkH [])) (by kernel_rfl) ?_
       refine ok_keep [0, 1, 32] (env' := [(0, .str a0), (1, .int .i64 y1_0), (32, .bool true)]) (by kernel_rfl) ?_
       exact hj2 (true, y1_0)
      ·refine ok_run 2 (p' := (atN 24 (ctl1 g17p2))) (env' := ((28, .int .i64 y1_0) :: (27, .str a0) :: (26, .bool false) :: E8)) (H' := (mkH [])) (by kernel_rfl) ?_
       refine ok_chk (fun (x0_24 : Int) => (.int .u8 x0_24, (mkH []))) (atN 25 (ctl1 g17p2)) (fun x0_24 => ((29, .int .u8 x0_24) :: (28, .int .i64 y1_0) :: (27, .str a0) :: (26, .bool false) :: E8)) (idxH (by kernel_rfl)) (fun _ => by kernel_rfl) (fun x0_24 hx0_24 => ?_)
       let E10 : Env := ((32, .bool (decide (x0_24 = 13))) :: (31, .bool (decide (x0_24 = 13))) :: (30, .bool (decide (x0_24 = 13))) :: (29, .int .u8 x0_24) :: (28, .int .i64 y1_0) :: (27, .str a0) :: (26, .bool false) :: E8)
       refine ok_run 4 (p' := g17p3) (env' := E10) (H' := (mkH [])) (by kernel_rfl) ?_
       refine ok_keep [0, 1, 32] (env' := [(0, .str a0), (1, .int .i64 y1_0), (32, .bool (decide (x0_24 = 13)))]) (by kernel_rfl) ?_
       exact hj2 (decide (x0_24 = 13), y1_0)
   ·let E11 : Env := ((32, .bool false) :: (31, .tuple []) :: (30, .tuple []) :: (29, .tuple []) :: (28, .tuple []) :: (27, .tuple []) :: (26, .tuple []) :: (25, .tuple []) :: (24, .tuple []) :: (23, .tuple []) :: (22, .tuple []) :: (21, .tuple []) :: (20, .tuple []) :: (19, .tuple []) :: (18, .tuple []) :: (17, .tuple []) :: (16, .tuple []) :: (15, .tuple []) :: (14, .tuple []) :: (13, .tuple []) :: (12, .tuple []) :: (11, .tuple []) :: (10, .tuple []) :: (9, .bool false) :: E1)
    refine ok_run 24 (p' := g17p3) (env' := E11) (H' := (mkH [])) (by kernel_rfl) ?_
    refine ok_keep [0, 1, 32] (env' := [(0, .str a0), (1, .int .i64 y1_0), (32, .bool false)]) (by kernel_rfl) ?_
    exact hj2 (false, y1_0)
def g17 (k : Nat) (a0 : (List Nat)) (a1 : Int) : Option Int :=
 g17_l1 k a0 k a1
theorem g17_ok (k : Nat) (a0 : (List Nat)) (a1 : Int) (r : Int) (h : g17 k a0 a1 = some r) : PureOk Try.prog 17 [.str a0, .int .i64 a1] (.int .i64 r) := by
 refine pure_of X17 (fun _ => rfl) Try.func17 (by decide +kernel) (by kernel_rfl) (t := g17 k a0 a1) ?_ h
 unfold g17
 refine ok_env (env' := [(0, .str a0), (1, .int .i64 a1)]) (by kernel_rfl) ?_
 refine ok_run 7 (p' := g17p1) (env' := [(4, .int .i64 0), (0, .str a0), (1, .int .i64 a1)]) (H' := (mkH [])) (by kernel_rfl) ?_
 refine ok_keep [0, 1] (env' := [(0, .str a0), (1, .int .i64 a1)]) (by kernel_rfl) ?_
 exact (g17_l1_ok k a0 k) a1
end
end Go.Proofs.Ytokcjgjgojlhbaa.Am
set_option maxRecDepth 100000
set_option linter.unusedVariables false
namespace Go.Proofs.Ytokcjgjgojlhbaa.Am
noncomputable section
open Go
def X21 : Fx (List Nat) := ⟨Try.prog, cx, Try.f21, fun r => .str r, 0, fun _ => H0, cxTi, cxOrd⟩
def g21p0 : Pt := nav [0] (bodyAt Try.f21)
def g21p1 : Pt := nav [0, 0, 0] g21p0
def g21p2 : Pt := nav [0, 0, 0, 0, 0] g21p1
def g21p3 : Pt := nav [0, 0, 0] g21p2
def g21p4 : Pt := nav [0, 0] g21p3
def g21p6 : Pt := nav [2, 0, 0] g21p4
def g21_l2 (k : Nat)  (a0 : (List Nat)) (n : Nat) : Int → Option (List Nat) :=
 Nat.rec (motive := fun _ => Int → Option (List Nat)) (fun _ => none) (fun _ ih => fun (y2_0 : Int) => jn (fun (z3 : Bool × Int) => if z3.1 then (ih (fwrap .i64 (z3.2 - 1))) else ((subL a0 none (some z3.2)).bind fun x1_2 => some x1_2)) (fun j3 => if (decide (0 < y2_0)) then ((nthS a0 (fwrap .i64 (y2_0 - 1))).bind fun x0_6 => if (decide (x0_6 = 32)) then (j3 (true, y2_0)) else ((nthS a0 (fwrap .i64 (y2_0 - 1))).bind fun x0_12 => if (decide (x0_12 = 9)) then (j3 (true, y2_0)) else ((nthS a0 (fwrap .i64 (y2_0 - 1))).bind fun x0_19 => j3 (decide (x0_19 = 13), y2_0)))) else (j3 (false, y2_0)))) n
theorem g21_l2_s (k : Nat)  (a0 : (List Nat)) (n : Nat) (y2_0 : Int) : g21_l2 k a0 (n + 1) y2_0 = (jn (fun (z3 : Bool × Int) => if z3.1 then ((g21_l2 k a0 n) (fwrap .i64 (z3.2 - 1))) else ((subL a0 none (some z3.2)).bind fun x1_2 => some x1_2)) (fun j3 => if (decide (0 < y2_0)) then ((nthS a0 (fwrap .i64 (y2_0 - 1))).bind fun x0_6 => if (decide (x0_6 = 32)) then (j3 (true, y2_0)) else ((nthS a0 (fwrap .i64 (y2_0 - 1))).bind fun x0_12 => if (decide (x0_12 = 9)) then (j3 (true, y2_0)) else ((nthS a0 (fwrap .i64 (y2_0 - 1))).bind fun x0_19 => j3 (decide (x0_19 = 13), y2_0)))) else (j3 (false, y2_0)))) := rfl
theorem g21_l2_ok (k : Nat)  (a0 : (List Nat))  : ∀ (n : Nat) (y2_0 : Int), Ok X21 g21p2 [(0, .str a0), (3, .int .i64 y2_0)] (mkH []) (g21_l2 k a0 n y2_0)
 | 0, _ => ok_none
 | n + 1, y2_0 => by
  have ih := g21_l2_ok k a0 n
  rw [g21_l2_s]
  refine ok_ent (p' := nav [0] g21p2) (by kernel_rfl) ?_
  let E2 : Env := [(8, .bool (decide (0 < y2_0))), (7, .bool (decide (0 < y2_0))), (6, .int .i64 y2_0), (0, .str a0), (3, .int .i64 y2_0)]
  refine ok_run 6 (p' := (atN 3 (ctl1 g21p3))) (env' := E2) (H' := (mkH [])) (by kernel_rfl) ?_
  refine ok_jn (f := fun (z3 : Bool × Int) => if z3.1 then ((g21_l2 k a0 n) (fwrap .i64 (z3.2 - 1))) else ((subL a0 none (some z3.2)).bind fun x1_2 => some x1_2)) g21p4 (fun (z3 : Bool × Int) => [(0, .str a0), (3, .int .i64 z3.2), (28, .bool z3.1)]) (fun (z3 : Bool × Int) => (mkH [])) (fun z3 => ?_) (fun j3 hj3 => ?_)
  ·refine ok_split 28 (b := z3.1) (by kernel_rfl) (fun hb => ?_) (fun hb => ?_)
   ·let E3 : Env := [(3, .int .i64 (fwrap .i64 (z3.2 - 1))), (30, .int .i64 (fwrap .i64 (z3.2 - 1))), (29, .int .i64 z3.2), (28, .bool true), (0, .str a0), (3, .int .i64 z3.2), (28, .bool z3.1)]
    refine ok_run 8 (p' := g21p2) (env' := E3) (H' := (mkH [])) (by kernel_rfl) ?_
    refine ok_keep [0, 3] (env' := [(0, .str a0), (3, .int .i64 (fwrap .i64 (z3.2 - 1)))]) (by kernel_rfl) ?_
    exact ih (fwrap .i64 (z3.2 - 1))
   ·let E4 : Env := [(32, .int .i64 z3.2), (31, .str a0), (28, .bool false), (0, .str a0), (3, .int .i64 z3.2), (28, .bool z3.1)]
    refine ok_run 6 (p' := (atN 2 (ctl1 g21p6))) (env' := E4) (H' := (mkH [])) (by kernel_rfl) ?_
    refine ok_chk (fun (x1_2 : (List Nat)) => (.str x1_2, (mkH []))) (atN 3 (ctl1 g21p6)) (fun x1_2 => ((33, .str x1_2) :: E4)) (subH none (some z3.2) (by kernel_rfl)) (fun _ => by kernel_rfl) (fun x1_2 hx1_2 => ?_)
    refine ok_run 3 (p' := .fin) (env' := ((2, .str x1_2) :: (33, .str x1_2) :: E4)) (H' := (mkH [])) (by kernel_rfl) ?_
    exact ok_ret (r := x1_2) (xs := [.str x1_2]) (v := .str x1_2) (by kernel_rfl) (by kernel_rfl) (by kernel_rfl) (.pures (by kernel_rfl)) (by kernel_rfl)
  ·refine ok_split 8 (b := decide (0 < y2_0)) (by kernel_rfl) (fun hb => ?_) (fun hb => ?_)
   ·refine ok_run 3 (p' := (atN 6 (ctl1 g21p3))) (env' := ((11, .int .i64 (fwrap .i64 (y2_0 - 1))) :: (10, .int .i64 y2_0) :: (9, .str a0) :: (8, .bool true) :: E2)) (H' := (mkH [])) (by kernel_rfl) ?_
    refine ok_chk (fun (x0_6 : Int) => (.int .u8 x0_6, (mkH []))) (atN 7 (ctl1 g21p3)) (fun x0_6 => ((12, .int .u8 x0_6) :: (11, .int .i64 (fwrap .i64 (y2_0 - 1))) :: (10, .int .i64 y2_0) :: (9, .str a0) :: (8, .bool true) :: E2)) (idxH (by kernel_rfl)) (fun _ => by kernel_rfl) (fun x0_6 hx0_6 => ?_)
    let E5 : Env := ((14, .bool (decide (x0_6 = 32))) :: (13, .bool (decide (x0_6 = 32))) :: (12, .int .u8 x0_6) :: (11, .int .i64 (fwrap .i64 (y2_0 - 1))) :: (10, .int .i64 y2_0) :: (9, .str a0) :: (8, .bool true) :: E2)
    refine ok_run 2 (p' := (atN 9 (ctl1 g21p3))) (env' := E5) (H' := (mkH [])) (by kernel_rfl) ?_
    refine ok_split 14 (b := decide (x0_6 = 32)) (by kernel_rfl) (fun hb => ?_) (fun hb => ?_)
    ·let E6 : Env := ((28, .bool true) :: (27, .bool true) :: (26, .tuple []) :: (25, .tuple []) :: (24, .tuple []) :: (23, .tuple []) :: (22, .tuple []) :: (21, .bool true) :: (20, .bool true) :: (19, .tuple []) :: (18, .tuple []) :: (17, .tuple []) :: (16, .tuple []) :: (15, .tuple []) :: (14, .bool true) :: E5)
     refine ok_run 15 (p' := g21p4) (env' := E6) (H' := (mkH [])) (by kernel_rfl) ?_
     refine ok_keep [0, 3, 28] (env' := [(0, .str a0), (3, .int .i64 y2_0), (28, .bool true)]) (by kernel_rfl) ?_
     exact hj3 (true, y2_0)
    ·refine ok_run 3 (p' := (atN 12 (ctl1 g21p3))) (env' := ((17, .int .i64 (fwrap .i64 (y2_0 - 1))) :: (16, .int .i64 y2_0) :: (15, .str a0) :: (14, .bool false) :: E5)) (H' := (mkH [])) (by kernel_rfl) ?_
     refine ok_chk (fun (x0_12 : Int) => (.int .u8 x0_12, (mkH []))) (atN 13 (ctl1 g21p3)) (fun x0_12 => ((18, .int .u8 x0_12) :: (17, .int .i64 (fwrap .i64 (y2_0 - 1))) :: (16, .int .i64 y2_0) :: (15, .str a0) :: (14, .bool false) :: E5)) (idxH (by kernel_rfl)) (fun _ => by kernel_rfl) (fun x0_12 hx0_12 => ?_)
     let E7 : Env := ((21, .bool (decide (x0_12 = 9))) :: (20, .bool (decide (x0_12 = 9))) :: (19, .bool (decide (x0_12 = 9))) :: (18, .int .u8 x0_12) :: (17, .int .i64 (fwrap .i64 (y2_0 - 1))) :: (16, .int .i64 y2_0) :: (15, .str a0) :: (14, .bool false) :: E5)
     refine ok_run 3 (p' := (atN 16 (ctl1 g21p3))) (env' := E7) (H' := (mkH [])) (by kernel_rfl) ?_
     refine ok_split 21 (b := decide (x0_12 = 9)) (by kernel_rfl) (fun hb => ?_) (fun hb => ?_)
     ·let E8 : Env := ((28, .bool true) :: (27, .bool true) :: (26, .tuple []) :: (25, .tuple []) :: (24, .tuple []) :: (23, .tuple []) :: (22, .tuple []) :: (21, .bool true) :: E7)
      refine ok_run 8 (p' := g21p4) (env' := E8) (H' := (mkH [])) (by kernel_rfl) ?_
      refine ok_keep [0, 3, 28] (env' := [(0, .str a0), (3, .int .i64 y2_0), (28, .bool true)]) (by kernel_rfl) ?_
      exact hj3 (true, y2_0)
     ·refine ok_run 3 (p' := (atN 19 (ctl1 g21p3))) (env' := ((24, .int .i64 (fwrap .i64 (y2_0 - 1))) :: (23, .int .i64 y2_0) :: (22, .str a0) :: (21, .bool false) :: E7)) (H' := (mkH [])) (by kernel_rfl) ?_
      refine ok_chk (fun (x0_19 : Int) => (.int .u8 x0_19, (mkH []))) (atN 20 (ctl1 g21p3)) (fun x0_19 => ((25, .int .u8 x0_19) :: (24, .int .i64 (fwrap .i64 (y2_0 - 1))) :: (23, .int .i64 y2_0) :: (22, .str a0) :: (21, .bool false) :: E7)) (idxH (by kernel_rfl)) (fun _ => by kernel_rfl) (fun x0_19 hx0_19 => ?_)
      let E9 : Env := ((28, .bool (decide (x0_19 = 13))) :: (27, .bool (decide (x0_19 = 13))) :: (26, .bool (decide (x0_19 = 13))) :: (25, .int .u8 x0_19) :: (24, .int .i64 (fwrap .i64 (y2_0 - 1))) :: (23, .int .i64 y2_0) :: (22, .str a0) :: (21, .bool false) :: E7)
      refine ok_run 4 (p' := g21p4) (env' := E9) (H' := (mkH [])) (by kernel_rfl) ?_
      refine ok_keep [0, 3, 28] (env' := [(0, .str a0), (3, .int .i64 y2_0), (28, .bool (decide (x0_19 = 13)))]) (by kernel_rfl) ?_
      exact hj3 (decide (x0_19 = 13), y2_0)
   ·let E10 : Env := ((28, .bool false) :: (27, .tuple []) :: (26, .tuple []) :: (25, .tuple []) :: (24, .tuple []) :: (23, .tuple []) :: (22, .tuple []) :: (21, .tuple []) :: (20, .tuple []) :: (19, .tuple []) :: (18, .tuple []) :: (17, .tuple []) :: (16, .tuple []) :: (15, .tuple []) :: (14, .tuple []) :: (13, .tuple []) :: (12, .tuple []) :: (11, .tuple []) :: (10, .tuple []) :: (9, .tuple []) :: (8, .bool false) :: E2)
    refine ok_run 21 (p' := g21p4) (env' := E10) (H' := (mkH [])) (by kernel_rfl) ?_
    refine ok_keep [0, 3, 28] (env' := [(0, .str a0), (3, .int .i64 y2_0), (28, .bool false)]) (by kernel_rfl) ?_
    exact hj3 (false, y2_0)
def g21 (k : Nat) (a0 : (List Nat)) : Option (List Nat) :=
 g21_l2 k a0 k (a0.length : Int)
theorem g21_ok (k : Nat) (a0 : (List Nat)) (r : (List Nat)) (h : g21 k a0 = some r) : PureOk Try.prog 21 [.str a0] (.str r) := by
 refine pure_of X21 (fun _ => rfl) Try.func21 (by decide +kernel) (by kernel_rfl) (t := g21 k a0) ?_ h
 unfold g21
 refine ok_env (env' := [(0, .str a0)]) (by kernel_rfl) ?_
 let E1 : Env := [(3, .int .i64 (a0.length : Int)), (5, .int .i64 (a0.length : Int)), (4, .str a0), (2, .str []), (0, .str a0)]
 refine ok_run 13 (p' := g21p2) (env' := E1) (H' := (mkH [])) (by kernel_rfl) ?_
 refine ok_keep [0, 3] (env' := [(0, .str a0), (3, .int .i64 (a0.length : Int))]) (by kernel_rfl) ?_
 exact (g21_l2_ok k a0 k) (a0.length : Int)
end
end Go.Proofs.Ytokcjgjgojlhbaa.Am
set_option maxRecDepth 100000
set_option linter.unusedVariables false
namespace Go.Proofs.Ytokcjgjgojlhbaa.Am
noncomputable section
open Go
def X23 : Fx (S28 × Int) := ⟨Try.prog, cx, Try.f23, fun r => .tuple [.agg [.int .i64 r.1.f0, .str r.1.f1, .int .i64 r.1.f2], .int .i64 r.2], 0, fun _ => H0, cxTi, cxOrd⟩
def g23p0 : Pt := nav [0] (bodyAt Try.f23)
def g23p1 : Pt := nav [0, 0, 0] g23p0
def g23p2 : Pt := nav [0, 0, 0, 0] g23p1
def g23p3 : Pt := nav [0, 0] g23p2
def g23p4 : Pt := nav [1] g23p3
def g23p5 : Pt := nav [2, 0, 0] g23p3
def g23p6 : Pt := nav [0, 0, 0, 0] g23p5
def g23p7 : Pt := nav [0, 0] g23p6
def g23p9 : Pt := nav [2, 0, 0, 0] g23p7
def g23p11 : Pt := nav [0, 0] g23p9
def g23p12 : Pt := nav [1, 0] g23p11
def g23p13 : Pt := nav [2, 0, 0] g23p11
def g23p14 : Pt := nav [0, 0, 0, 0] g23p12
def g23p15 : Pt := nav [0, 0, 0, 0] g23p14
def g23p16 : Pt := nav [0, 0, 0] g23p15
def g23p17 : Pt := nav [0, 0] g23p16
def g23p18 : Pt := nav [1, 0, 0, 0] g23p17
def g23p19 : Pt := nav [2, 0, 0] g23p17
def g23p20 : Pt := nav [0, 0] g23p18
def g23p21 : Pt := nav [0, 0] g23p19
def g23_l9 (k : Nat) (c11 : Unit → Option (S28 × Int)) (a0 : (List Nat)) (a1 : Int) (z6 : Int × Int) (n : Nat) : Bool → Int → Option (S28 × Int) :=
 Nat.rec (motive := fun _ => Bool → Int → Option (S28 × Int)) (fun _ _ => none) (fun _ ih => fun (y9_0 : Bool) (y9_1 : Int) => if (decide (y9_1 < fwrap .i64 (a1 + z6.2))) then (jn (fun (z10 : Bool × Int) => ih z10.1 (fwrap .i64 (z10.2 + 1))) (fun j10 => if y9_0 then (j10 (true, y9_1)) else ((nthS a0 y9_1).bind fun x5_4 => j10 (decide (x5_4 = 35), y9_1)))) else (if (!y9_0) then (some ((⟨(0 : Int), ([] : List Nat), (0 : Int)⟩ : S28), (4 : Int))) else (c11 ()))) n
theorem g23_l9_s (k : Nat) (c11 : Unit → Option (S28 × Int)) (a0 : (List Nat)) (a1 : Int) (z6 : Int × Int) (n : Nat) (y9_0 : Bool) (y9_1 : Int) : g23_l9 k c11 a0 a1 z6 (n + 1) y9_0 y9_1 = (if (decide (y9_1 < fwrap .i64 (a1 + z6.2))) then (jn (fun (z10 : Bool × Int) => (g23_l9 k c11 a0 a1 z6 n) z10.1 (fwrap .i64 (z10.2 + 1))) (fun j10 => if y9_0 then (j10 (true, y9_1)) else ((nthS a0 y9_1).bind fun x5_4 => j10 (decide (x5_4 = 35), y9_1)))) else (if (!y9_0) then (some ((⟨(0 : Int), ([] : List Nat), (0 : Int)⟩ : S28), (4 : Int))) else (c11 ()))) := rfl
theorem g23_l9_ok (k : Nat) (c11 : Unit → Option (S28 × Int)) (a0 : (List Nat)) (a1 : Int) (z6 : Int × Int) (hc11 : ∀ z11 : Unit, Ok X23 g23p13 ((fun (z11 : Unit) => [(0, .str a0), (1, .int .i64 a1), (4, .ptr 0 3 0), (6, .int .i64 z6.1), (8, .int .i64 (fwrap .i64 (a1 + z6.2)))]) z11) ((fun (z11 : Unit) => (mkH [⟨[.int .i64 0, .str [], .int .i64 0], 0, false⟩])) z11) (c11 z11)) : ∀ (n : Nat) (y9_0 : Bool) (y9_1 : Int), Ok X23 g23p15 [(0, .str a0), (1, .int .i64 a1), (4, .ptr 0 3 0), (6, .int .i64 z6.1), (8, .int .i64 (fwrap .i64 (a1 + z6.2))), (9, .bool y9_0), (10, .int .i64 y9_1)] (mkH [⟨[.int .i64 0, .str [], .int .i64 0], 0, false⟩]) (g23_l9 k c11 a0 a1 z6 n y9_0 y9_1)
 | 0, _, _ => ok_none
 | n + 1, y9_0, y9_1 => by
  have ih := g23_l9_ok k c11 a0 a1 z6 hc11 n
  rw [g23_l9_s]
  refine ok_ent (p' := nav [0] g23p15) (by kernel_rfl) ?_
  let E8 : Env := [(54, .bool (decide (y9_1 < fwrap .i64 (a1 + z6.2)))), (53, .int .i64 (fwrap .i64 (a1 + z6.2))), (52, .int .i64 y9_1), (0, .str a0), (1, .int .i64 a1), (4, .ptr 0 3 0), (6, .int .i64 z6.1), (8, .int .i64 (fwrap .i64 (a1 + z6.2))), (9, .bool y9_0), (10, .int .i64 y9_1)]
  refine ok_run 7 (p' := g23p17) (env' := E8) (H' := (mkH [⟨[.int .i64 0, .str [], .int .i64 0], 0, false⟩])) (by kernel_rfl) ?_
  refine ok_split 54 (b := decide (y9_1 < fwrap .i64 (a1 + z6.2))) (by kernel_rfl) (fun hb => ?_) (fun hb => ?_)
  ·refine ok_run 7 (p' := (atN 2 (ctl1 g23p18))) (env' := ((58, .bool y9_0) :: (57, .bool y9_0) :: (54, .bool true) :: E8)) (H' := (mkH [⟨[.int .i64 0, .str [], .int .i64 0], 0, false⟩])) (by kernel_rfl) ?_
   refine ok_jn (f := fun (z10 : Bool × Int) => (g23_l9 k c11 a0 a1 z6 n) z10.1 (fwrap .i64 (z10.2 + 1))) g23p20 (fun (z10 : Bool × Int) => [(0, .str a0), (1, .int .i64 a1), (4, .ptr 0 3 0), (6, .int .i64 z6.1), (8, .int .i64 (fwrap .i64 (a1 + z6.2))), (9, .bool z10.1), (10, .int .i64 z10.2)]) (fun (z10 : Bool × Int) => (mkH [⟨[.int .i64 0, .str [], .int .i64 0], 0, false⟩])) (fun z10 => ?_) (fun j10 hj10 => ?_)
   ·let E9 : Env := [(10, .int .i64 (fwrap .i64 (z10.2 + 1))), (56, .int .i64 (fwrap .i64 (z10.2 + 1))), (55, .int .i64 z10.2), (0, .str a0), (1, .int .i64 a1), (4, .ptr 0 3 0), (6, .int .i64 z6.1), (8, .int .i64 (fwrap .i64 (a1 + z6.2))), (9, .bool z10.1), (10, .int .i64 z10.2)]
    refine ok_run 5 (p' := g23p15) (env' := E9) (H' := (mkH [⟨[.int .i64 0, .str [], .int .i64 0], 0, false⟩])) (by kernel_rfl) ?_
    refine ok_keep [0, 1, 4, 6, 8, 9, 10] (env' := [(0, .str a0), (1, .int .i64 a1), (4, .ptr 0 3 0), (6, .int .i64 z6.1), (8, .int .i64 (fwrap .i64 (a1 + z6.2))), (9, .bool z10.1), (10, .int .i64 (fwrap .i64 (z10.2 + 1)))]) (by kernel_rfl) ?_
    exact ih z10.1 (fwrap .i64 (z10.2 + 1))
   ·refine ok_split 58 (b := y9_0) (by kernel_rfl) (fun hb => ?_) (fun hb => ?_)
    ·let E10 : Env := ((9, .bool true) :: (63, .bool true) :: (62, .tuple []) :: (61, .tuple []) :: (60, .tuple []) :: (59, .tuple []) :: (58, .bool true) :: (58, .bool y9_0) :: (57, .bool y9_0) :: (54, .bool true) :: E8)
     refine ok_run 7 (p' := g23p20) (env' := E10) (H' := (mkH [⟨[.int .i64 0, .str [], .int .i64 0], 0, false⟩])) (by kernel_rfl) ?_
     refine ok_keep [0, 1, 4, 6, 8, 9, 10] (env' := [(0, .str a0), (1, .int .i64 a1), (4, .ptr 0 3 0), (6, .int .i64 z6.1), (8, .int .i64 (fwrap .i64 (a1 + z6.2))), (9, .bool true), (10, .int .i64 y9_1)]) (by kernel_rfl) ?_
     exact hj10 (true, y9_1)
    ·let E11 : Env := ((60, .int .i64 y9_1) :: (59, .str a0) :: (58, .bool false) :: (58, .bool y9_0) :: (57, .bool y9_0) :: (54, .bool true) :: E8)
     refine ok_run 2 (p' := (atN 4 (ctl1 g23p18))) (env' := E11) (H' := (mkH [⟨[.int .i64 0, .str [], .int .i64 0], 0, false⟩])) (by kernel_rfl) ?_
     refine ok_chk (fun (x5_4 : Int) => (.int .u8 x5_4, (mkH [⟨[.int .i64 0, .str [], .int .i64 0], 0, false⟩]))) (atN 5 (ctl1 g23p18)) (fun x5_4 => ((61, .int .u8 x5_4) :: E11)) (idxH (by kernel_rfl)) (fun _ => by kernel_rfl) (fun x5_4 hx5_4 => ?_)
     refine ok_run 4 (p' := g23p20) (env' := ((9, .bool (decide (x5_4 = 35))) :: (63, .bool (decide (x5_4 = 35))) :: (62, .bool (decide (x5_4 = 35))) :: (61, .int .u8 x5_4) :: E11)) (H' := (mkH [⟨[.int .i64 0, .str [], .int .i64 0], 0, false⟩])) (by kernel_rfl) ?_
     refine ok_keep [0, 1, 4, 6, 8, 9, 10] (env' := [(0, .str a0), (1, .int .i64 a1), (4, .ptr 0 3 0), (6, .int .i64 z6.1), (8, .int .i64 (fwrap .i64 (a1 + z6.2))), (9, .bool (decide (x5_4 = 35))), (10, .int .i64 y9_1)]) (by kernel_rfl) ?_
     exact hj10 (decide (x5_4 = 35), y9_1)
  ·refine ok_run 7 (p' := g23p21) (env' := ((65, .bool (!y9_0)) :: (64, .bool y9_0) :: (54, .bool false) :: E8)) (H' := (mkH [⟨[.int .i64 0, .str [], .int .i64 0], 0, false⟩])) (by kernel_rfl) ?_
   refine ok_keep [0, 1, 4, 6, 8, 65] (env' := [(0, .str a0), (1, .int .i64 a1), (4, .ptr 0 3 0), (6, .int .i64 z6.1), (8, .int .i64 (fwrap .i64 (a1 + z6.2))), (65, .bool (!y9_0))]) (by kernel_rfl) ?_
   refine ok_split 65 (b := !y9_0) (by kernel_rfl) (fun hb => ?_) (fun hb => ?_)
   ·let E12 : Env := [(5, .int .i64 4), (66, .agg [.int .i64 0, .str [], .int .i64 0]), (65, .bool true), (0, .str a0), (1, .int .i64 a1), (4, .ptr 0 3 0), (6, .int .i64 z6.1), (8, .int .i64 (fwrap .i64 (a1 + z6.2))), (65, .bool (!y9_0))]
    refine ok_run 8 (p' := .fin) (env' := E12) (H' := (mkH [⟨[.int .i64 0, .str [], .int .i64 0], 3, false⟩])) (by kernel_rfl) ?_
    exact ok_ret (r := ((⟨(0 : Int), ([] : List Nat), (0 : Int)⟩ : S28), (4 : Int))) (xs := [.agg [.int .i64 0, .str [], .int .i64 0], .int .i64 4]) (v := .tuple [.agg [.int .i64 0, .str [], .int .i64 0], .int .i64 4]) (by kernel_rfl) (by kernel_rfl) (by kernel_rfl) (.pures (by kernel_rfl)) (by kernel_rfl)
   ·let E13 : Env := [(65, .bool false), (0, .str a0), (1, .int .i64 a1), (4, .ptr 0 3 0), (6, .int .i64 z6.1), (8, .int .i64 (fwrap .i64 (a1 + z6.2))), (65, .bool (!y9_0))]
    refine ok_run 3 (p' := g23p13) (env' := E13) (H' := (mkH [⟨[.int .i64 0, .str [], .int .i64 0], 0, false⟩])) (by kernel_rfl) ?_
    refine ok_keep [0, 1, 4, 6, 8] (env' := [(0, .str a0), (1, .int .i64 a1), (4, .ptr 0 3 0), (6, .int .i64 z6.1), (8, .int .i64 (fwrap .i64 (a1 + z6.2)))]) (by kernel_rfl) ?_
    exact hc11 ()
def g23 (k : Nat) (a0 : (List Nat)) (a1 : Int) : Option (S28 × Int) :=
 (g43 k a0 a1).bind fun x0_2 => jn (fun (z6 : Int × Int) => jn (fun (z7 : Bool) => if z7 then (some ((⟨(0 : Int), ([] : List Nat), (0 : Int)⟩ : S28), (4 : Int))) else (jn (fun (z8 : Bool) => jn (fun (z11 : Unit) => (subL a0 (some a1) (some (fwrap .i64 (a1 + z6.2)))).bind fun x4_4 => some ((⟨z6.1, x4_4, a1⟩ : S28), (0 : Int))) (fun j11 => if z8 then (g23_l9 k j11 a0 a1 z6 k false a1) else (j11 ()))) (fun j8 => if (decide (z6.1 = 3)) then (if (decide (fwrap .i64 (a1 + z6.2) < (a0.length : Int))) then ((nthS a0 (fwrap .i64 (a1 + z6.2))).bind fun x3_11 => j8 (decide (x3_11 = 35))) else (j8 false)) else (j8 false)))) (fun j7 => if (decide (z6.2 = 0)) then (j7 true) else (if (decide (fwrap .i64 (a1 + z6.2) < (a0.length : Int))) then ((nthS a0 (fwrap .i64 (a1 + z6.2))).bind fun x2_10 => (g45 k x2_10).bind fun x2_11 => j7 x2_11) else (j7 false)))) (fun j6 => if (decide (x0_2 = 0)) then ((g44 k a0 a1).bind fun x1_2 => j6 (3, x1_2)) else (j6 (4, x0_2)))
theorem g23_ok (k : Nat) (a0 : (List Nat)) (a1 : Int) (r : (S28 × Int)) (h : g23 k a0 a1 = some r) : PureOk Try.prog 23 [.str a0, .int .i64 a1] (.tuple [.agg [.int .i64 r.1.f0, .str r.1.f1, .int .i64 r.1.f2], .int .i64 r.2]) := by
 refine pure_of X23 (fun _ => rfl) Try.func23 (by decide +kernel) (by kernel_rfl) (t := g23 k a0 a1) ?_ h
 unfold g23
 refine ok_env (env' := [(0, .str a0), (1, .int .i64 a1)]) (by kernel_rfl) ?_
 let E1 : Env := [(12, .int .i64 a1), (11, .str a0), (5, .int .i64 0), (4, .ptr 0 3 0), (0, .str a0), (1, .int .i64 a1)]
 refine ok_run 9 (p' := (atN 2 (ctl1 g23p1))) (env' := E1) (H' := (mkH [⟨[.int .i64 0, .str [], .int .i64 0], 0, false⟩])) (by kernel_rfl) ?_
 refine ok_call (fun (x0_2 : Int) => .int .i64 x0_2) (atN 3 (ctl1 g23p1)) (fun x0_2 => ((13, .int .i64 x0_2) :: E1)) (fi := 43) (args := [.str a0, .int .i64 a1]) (by kernel_rfl) (by kernel_rfl) (fun _ => by kernel_rfl) (fun r h => g43_ok k a0 a1 r h) (fun _ => by kernel_rfl) (fun x0_2 hx0_2 => ?_)
 let E2 : Env := ((15, .bool (decide (x0_2 = 0))) :: (14, .int .i64 x0_2) :: (7, .int .i64 x0_2) :: (6, .int .i64 4) :: (13, .int .i64 x0_2) :: E1)
 refine ok_run 9 (p' := g23p3) (env' := E2) (H' := (mkH [⟨[.int .i64 0, .str [], .int .i64 0], 0, false⟩])) (by kernel_rfl) ?_
 refine ok_jn (f := fun (z6 : Int × Int) => jn (fun (z7 : Bool) => if z7 then (some ((⟨(0 : Int), ([] : List Nat), (0 : Int)⟩ : S28), (4 : Int))) else (jn (fun (z8 : Bool) => jn (fun (z11 : Unit) => (subL a0 (some a1) (some (fwrap .i64 (a1 + z6.2)))).bind fun x4_4 => some ((⟨z6.1, x4_4, a1⟩ : S28), (0 : Int))) (fun j11 => if z8 then (g23_l9 k j11 a0 a1 z6 k false a1) else (j11 ()))) (fun j8 => if (decide (z6.1 = 3)) then (if (decide (fwrap .i64 (a1 + z6.2) < (a0.length : Int))) then ((nthS a0 (fwrap .i64 (a1 + z6.2))).bind fun x3_11 => j8 (decide (x3_11 = 35))) else (j8 false)) else (j8 false)))) (fun j7 => if (decide (z6.2 = 0)) then (j7 true) else (if (decide (fwrap .i64 (a1 + z6.2) < (a0.length : Int))) then ((nthS a0 (fwrap .i64 (a1 + z6.2))).bind fun x2_10 => (g45 k x2_10).bind fun x2_11 => j7 x2_11) else (j7 false)))) g23p5 (fun (z6 : Int × Int) => [(0, .str a0), (1, .int .i64 a1), (4, .ptr 0 3 0), (6, .int .i64 z6.1), (7, .int .i64 z6.2)]) (fun (z6 : Int × Int) => (mkH [⟨[.int .i64 0, .str [], .int .i64 0], 0, false⟩])) (fun z6 => ?_) (fun j6 hj6 => ?_)
 ·let E3 : Env := [(24, .bool (decide (z6.2 = 0))), (23, .bool (decide (z6.2 = 0))), (22, .int .i64 z6.2), (8, .int .i64 (fwrap .i64 (a1 + z6.2))), (21, .int .i64 (fwrap .i64 (a1 + z6.2))), (20, .int .i64 z6.2), (19, .int .i64 a1), (0, .str a0), (1, .int .i64 a1), (4, .ptr 0 3 0), (6, .int .i64 z6.1), (7, .int .i64 z6.2)]
  refine ok_run 12 (p' := (atN 3 (ctl1 g23p6))) (env' := E3) (H' := (mkH [⟨[.int .i64 0, .str [], .int .i64 0], 0, false⟩])) (by kernel_rfl) ?_
  refine ok_jn (f := fun (z7 : Bool) => if z7 then (some ((⟨(0 : Int), ([] : List Nat), (0 : Int)⟩ : S28), (4 : Int))) else (jn (fun (z8 : Bool) => jn (fun (z11 : Unit) => (subL a0 (some a1) (some (fwrap .i64 (a1 + z6.2)))).bind fun x4_4 => some ((⟨z6.1, x4_4, a1⟩ : S28), (0 : Int))) (fun j11 => if z8 then (g23_l9 k j11 a0 a1 z6 k false a1) else (j11 ()))) (fun j8 => if (decide (z6.1 = 3)) then (if (decide (fwrap .i64 (a1 + z6.2) < (a0.length : Int))) then ((nthS a0 (fwrap .i64 (a1 + z6.2))).bind fun x3_11 => j8 (decide (x3_11 = 35))) else (j8 false)) else (j8 false)))) g23p7 (fun (z7 : Bool) => [(0, .str a0), (1, .int .i64 a1), (4, .ptr 0 3 0), (6, .int .i64 z6.1), (8, .int .i64 (fwrap .i64 (a1 + z6.2))), (35, .bool z7)]) (fun (z7 : Bool) => (mkH [⟨[.int .i64 0, .str [], .int .i64 0], 0, false⟩])) (fun z7 => ?_) (fun j7 hj7 => ?_)
  ·refine ok_split 35 (b := z7) (by kernel_rfl) (fun hb => ?_) (fun hb => ?_)
   ·let E4 : Env := [(5, .int .i64 4), (36, .agg [.int .i64 0, .str [], .int .i64 0]), (35, .bool true), (0, .str a0), (1, .int .i64 a1), (4, .ptr 0 3 0), (6, .int .i64 z6.1), (8, .int .i64 (fwrap .i64 (a1 + z6.2))), (35, .bool z7)]
    refine ok_run 8 (p' := .fin) (env' := E4) (H' := (mkH [⟨[.int .i64 0, .str [], .int .i64 0], 3, false⟩])) (by kernel_rfl) ?_
    exact ok_ret (r := ((⟨(0 : Int), ([] : List Nat), (0 : Int)⟩ : S28), (4 : Int))) (xs := [.agg [.int .i64 0, .str [], .int .i64 0], .int .i64 4]) (v := .tuple [.agg [.int .i64 0, .str [], .int .i64 0], .int .i64 4]) (by kernel_rfl) (by kernel_rfl) (by kernel_rfl) (.pures (by kernel_rfl)) (by kernel_rfl)
   ·let E5 : Env := [(39, .bool (decide (z6.1 = 3))), (38, .bool (decide (z6.1 = 3))), (37, .int .i64 z6.1), (35, .bool false), (0, .str a0), (1, .int .i64 a1), (4, .ptr 0 3 0), (6, .int .i64 z6.1), (8, .int .i64 (fwrap .i64 (a1 + z6.2))), (35, .bool z7)]
    refine ok_run 8 (p' := (atN 3 (ctl1 g23p9))) (env' := E5) (H' := (mkH [⟨[.int .i64 0, .str [], .int .i64 0], 0, false⟩])) (by kernel_rfl) ?_
    refine ok_jn (f := fun (z8 : Bool) => jn (fun (z11 : Unit) => (subL a0 (some a1) (some (fwrap .i64 (a1 + z6.2)))).bind fun x4_4 => some ((⟨z6.1, x4_4, a1⟩ : S28), (0 : Int))) (fun j11 => if z8 then (g23_l9 k j11 a0 a1 z6 k false a1) else (j11 ()))) g23p11 (fun (z8 : Bool) => [(0, .str a0), (1, .int .i64 a1), (4, .ptr 0 3 0), (6, .int .i64 z6.1), (8, .int .i64 (fwrap .i64 (a1 + z6.2))), (50, .bool z8)]) (fun (z8 : Bool) => (mkH [⟨[.int .i64 0, .str [], .int .i64 0], 0, false⟩])) (fun z8 => ?_) (fun j8 hj8 => ?_)
    ·refine ok_jn (f := fun (z11 : Unit) => (subL a0 (some a1) (some (fwrap .i64 (a1 + z6.2)))).bind fun x4_4 => some ((⟨z6.1, x4_4, a1⟩ : S28), (0 : Int))) g23p13 (fun (z11 : Unit) => [(0, .str a0), (1, .int .i64 a1), (4, .ptr 0 3 0), (6, .int .i64 z6.1), (8, .int .i64 (fwrap .i64 (a1 + z6.2)))]) (fun (z11 : Unit) => (mkH [⟨[.int .i64 0, .str [], .int .i64 0], 0, false⟩])) (fun z11 => ?_) (fun j11 hj11 => ?_)
     ·let E6 : Env := [(70, .int .i64 (fwrap .i64 (a1 + z6.2))), (69, .int .i64 a1), (68, .str a0), (67, .int .i64 z6.1), (0, .str a0), (1, .int .i64 a1), (4, .ptr 0 3 0), (6, .int .i64 z6.1), (8, .int .i64 (fwrap .i64 (a1 + z6.2)))]
      refine ok_run 5 (p' := (atN 4 (ctl1 g23p13))) (env' := E6) (H' := (mkH [⟨[.int .i64 0, .str [], .int .i64 0], 0, false⟩])) (by kernel_rfl) ?_
      refine ok_chk (fun (x4_4 : (List Nat)) => (.str x4_4, (mkH [⟨[.int .i64 0, .str [], .int .i64 0], 0, false⟩]))) (atN 5 (ctl1 g23p13)) (fun x4_4 => ((71, .str x4_4) :: E6)) (subH (some a1) (some (fwrap .i64 (a1 + z6.2))) (by kernel_rfl)) (fun _ => by kernel_rfl) (fun x4_4 hx4_4 => ?_)
      refine ok_run 6 (p' := .fin) (env' := ((5, .int .i64 0) :: (73, .agg [.int .i64 z6.1, .str x4_4, .int .i64 a1]) :: (72, .int .i64 a1) :: (71, .str x4_4) :: E6)) (H' := (mkH [⟨[.int .i64 z6.1, .str x4_4, .int .i64 a1], 3, false⟩])) (by kernel_rfl) ?_
      exact ok_ret (r := ((⟨z6.1, x4_4, a1⟩ : S28), (0 : Int))) (xs := [.agg [.int .i64 z6.1, .str x4_4, .int .i64 a1], .int .i64 0]) (v := .tuple [.agg [.int .i64 z6.1, .str x4_4, .int .i64 a1], .int .i64 0]) (by kernel_rfl) (by kernel_rfl) (by kernel_rfl) (.pures (by kernel_rfl)) (by kernel_rfl)
     ·refine ok_split 50 (b := z8) (by kernel_rfl) (fun hb => ?_) (fun hb => ?_)
      ·let E7 : Env := [(10, .int .i64 a1), (51, .int .i64 a1), (9, .bool false), (50, .bool true), (0, .str a0), (1, .int .i64 a1), (4, .ptr 0 3 0), (6, .int .i64 z6.1), (8, .int .i64 (fwrap .i64 (a1 + z6.2))), (50, .bool z8)]
       refine ok_run 13 (p' := g23p15) (env' := E7) (H' := (mkH [⟨[.int .i64 0, .str [], .int .i64 0], 0, false⟩])) (by kernel_rfl) ?_
       refine ok_keep [0, 1, 4, 6, 8, 9, 10] (env' := [(0, .str a0), (1, .int .i64 a1), (4, .ptr 0 3 0), (6, .int .i64 z6.1), (8, .int .i64 (fwrap .i64 (a1 + z6.2))), (9, .bool false), (10, .int .i64 a1)]) (by kernel_rfl) ?_
       exact (g23_l9_ok k j11 a0 a1 z6 hj11 k) false a1
      ·let E14 : Env := [(50, .bool false), (0, .str a0), (1, .int .i64 a1), (4, .ptr 0 3 0), (6, .int .i64 z6.1), (8, .int .i64 (fwrap .i64 (a1 + z6.2))), (50, .bool z8)]
       refine ok_run 3 (p' := g23p13) (env' := E14) (H' := (mkH [⟨[.int .i64 0, .str [], .int .i64 0], 0, false⟩])) (by kernel_rfl) ?_
       refine ok_keep [0, 1, 4, 6, 8] (env' := [(0, .str a0), (1, .int .i64 a1), (4, .ptr 0 3 0), (6, .int .i64 z6.1), (8, .int .i64 (fwrap .i64 (a1 + z6.2)))]) (by kernel_rfl) ?_
       exact hj11 ()
    ·refine ok_split 39 (b := decide (z6.1 = 3)) (by kernel_rfl) (fun hb => ?_) (fun hb => ?_)
     ·let E15 : Env := ((45, .bool (decide (fwrap .i64 (a1 + z6.2) < (a0.length : Int)))) :: (44, .bool (decide (fwrap .i64 (a1 + z6.2) < (a0.length : Int)))) :: (43, .bool (decide (fwrap .i64 (a1 + z6.2) < (a0.length : Int)))) :: (42, .int .i64 (a0.length : Int)) :: (41, .str a0) :: (40, .int .i64 (fwrap .i64 (a1 + z6.2))) :: (39, .bool true) :: E5)
      refine ok_run 6 (p' := (atN 9 (ctl1 g23p9))) (env' := E15) (H' := (mkH [⟨[.int .i64 0, .str [], .int .i64 0], 0, false⟩])) (by kernel_rfl) ?_
      refine ok_split 45 (b := decide (fwrap .i64 (a1 + z6.2) < (a0.length : Int))) (by kernel_rfl) (fun hb => ?_) (fun hb => ?_)
      ·refine ok_run 2 (p' := (atN 11 (ctl1 g23p9))) (env' := ((47, .int .i64 (fwrap .i64 (a1 + z6.2))) :: (46, .str a0) :: (45, .bool true) :: E15)) (H' := (mkH [⟨[.int .i64 0, .str [], .int .i64 0], 0, false⟩])) (by kernel_rfl) ?_
       refine ok_chk (fun (x3_11 : Int) => (.int .u8 x3_11, (mkH [⟨[.int .i64 0, .str [], .int .i64 0], 0, false⟩]))) (atN 12 (ctl1 g23p9)) (fun x3_11 => ((48, .int .u8 x3_11) :: (47, .int .i64 (fwrap .i64 (a1 + z6.2))) :: (46, .str a0) :: (45, .bool true) :: E15)) (idxH (by kernel_rfl)) (fun _ => by kernel_rfl) (fun x3_11 hx3_11 => ?_)
       let E16 : Env := ((50, .bool (decide (x3_11 = 35))) :: (49, .bool (decide (x3_11 = 35))) :: (48, .int .u8 x3_11) :: (47, .int .i64 (fwrap .i64 (a1 + z6.2))) :: (46, .str a0) :: (45, .bool true) :: E15)
       refine ok_run 3 (p' := g23p11) (env' := E16) (H' := (mkH [⟨[.int .i64 0, .str [], .int .i64 0], 0, false⟩])) (by kernel_rfl) ?_
       refine ok_keep [0, 1, 4, 6, 8, 50] (env' := [(0, .str a0), (1, .int .i64 a1), (4, .ptr 0 3 0), (6, .int .i64 z6.1), (8, .int .i64 (fwrap .i64 (a1 + z6.2))), (50, .bool (decide (x3_11 = 35)))]) (by kernel_rfl) ?_
       exact hj8 (decide (x3_11 = 35))
      ·let E17 : Env := ((50, .bool false) :: (49, .tuple []) :: (48, .tuple []) :: (47, .tuple []) :: (46, .tuple []) :: (45, .bool false) :: E15)
       refine ok_run 6 (p' := g23p11) (env' := E17) (H' := (mkH [⟨[.int .i64 0, .str [], .int .i64 0], 0, false⟩])) (by kernel_rfl) ?_
       refine ok_keep [0, 1, 4, 6, 8, 50] (env' := [(0, .str a0), (1, .int .i64 a1), (4, .ptr 0 3 0), (6, .int .i64 z6.1), (8, .int .i64 (fwrap .i64 (a1 + z6.2))), (50, .bool false)]) (by kernel_rfl) ?_
       exact hj8 false
     ·let E18 : Env := ((50, .bool false) :: (49, .tuple []) :: (48, .tuple []) :: (47, .tuple []) :: (46, .tuple []) :: (45, .bool false) :: (44, .bool false) :: (43, .tuple []) :: (42, .tuple []) :: (41, .tuple []) :: (40, .tuple []) :: (39, .bool false) :: E5)
      refine ok_run 12 (p' := g23p11) (env' := E18) (H' := (mkH [⟨[.int .i64 0, .str [], .int .i64 0], 0, false⟩])) (by kernel_rfl) ?_
      refine ok_keep [0, 1, 4, 6, 8, 50] (env' := [(0, .str a0), (1, .int .i64 a1), (4, .ptr 0 3 0), (6, .int .i64 z6.1), (8, .int .i64 (fwrap .i64 (a1 + z6.2))), (50, .bool false)]) (by kernel_rfl) ?_
      exact hj8 false
  ·refine ok_split 24 (b := decide (z6.2 = 0)) (by kernel_rfl) (fun hb => ?_) (fun hb => ?_)
   ·let E19 : Env := ((35, .bool true) :: (34, .tuple []) :: (33, .tuple []) :: (32, .tuple []) :: (31, .tuple []) :: (30, .tuple []) :: (29, .tuple []) :: (28, .tuple []) :: (27, .tuple []) :: (26, .tuple []) :: (25, .tuple []) :: (24, .bool true) :: E3)
    refine ok_run 12 (p' := g23p7) (env' := E19) (H' := (mkH [⟨[.int .i64 0, .str [], .int .i64 0], 0, false⟩])) (by kernel_rfl) ?_
    refine ok_keep [0, 1, 4, 6, 8, 35] (env' := [(0, .str a0), (1, .int .i64 a1), (4, .ptr 0 3 0), (6, .int .i64 z6.1), (8, .int .i64 (fwrap .i64 (a1 + z6.2))), (35, .bool true)]) (by kernel_rfl) ?_
    exact hj7 true
   ·let E20 : Env := ((29, .bool (decide (fwrap .i64 (a1 + z6.2) < (a0.length : Int)))) :: (28, .bool (decide (fwrap .i64 (a1 + z6.2) < (a0.length : Int)))) :: (27, .int .i64 (a0.length : Int)) :: (26, .str a0) :: (25, .int .i64 (fwrap .i64 (a1 + z6.2))) :: (24, .bool false) :: E3)
    refine ok_run 5 (p' := (atN 8 (ctl1 g23p6))) (env' := E20) (H' := (mkH [⟨[.int .i64 0, .str [], .int .i64 0], 0, false⟩])) (by kernel_rfl) ?_
    refine ok_split 29 (b := decide (fwrap .i64 (a1 + z6.2) < (a0.length : Int))) (by kernel_rfl) (fun hb => ?_) (fun hb => ?_)
    ·refine ok_run 2 (p' := (atN 10 (ctl1 g23p6))) (env' := ((31, .int .i64 (fwrap .i64 (a1 + z6.2))) :: (30, .str a0) :: (29, .bool true) :: E20)) (H' := (mkH [⟨[.int .i64 0, .str [], .int .i64 0], 0, false⟩])) (by kernel_rfl) ?_
     refine ok_chk (fun (x2_10 : Int) => (.int .u8 x2_10, (mkH [⟨[.int .i64 0, .str [], .int .i64 0], 0, false⟩]))) (atN 11 (ctl1 g23p6)) (fun x2_10 => ((32, .int .u8 x2_10) :: (31, .int .i64 (fwrap .i64 (a1 + z6.2))) :: (30, .str a0) :: (29, .bool true) :: E20)) (idxH (by kernel_rfl)) (fun _ => by kernel_rfl) (fun x2_10 hx2_10 => ?_)
     refine ok_call (fun (x2_11 : Bool) => .bool x2_11) (atN 12 (ctl1 g23p6)) (fun x2_11 => ((33, .bool x2_11) :: (32, .int .u8 x2_10) :: (31, .int .i64 (fwrap .i64 (a1 + z6.2))) :: (30, .str a0) :: (29, .bool true) :: E20)) (fi := 45) (args := [.int .u8 x2_10]) (by kernel_rfl) (by kernel_rfl) (fun _ => by kernel_rfl) (fun r h => g45_ok k x2_10 r h) (fun _ => by kernel_rfl) (fun x2_11 hx2_11 => ?_)
     let E21 : Env := ((35, .bool x2_11) :: (34, .bool x2_11) :: (33, .bool x2_11) :: (32, .int .u8 x2_10) :: (31, .int .i64 (fwrap .i64 (a1 + z6.2))) :: (30, .str a0) :: (29, .bool true) :: E20)
     refine ok_run 3 (p' := g23p7) (env' := E21) (H' := (mkH [⟨[.int .i64 0, .str [], .int .i64 0], 0, false⟩])) (by kernel_rfl) ?_
     refine ok_keep [0, 1, 4, 6, 8, 35] (env' := [(0, .str a0), (1, .int .i64 a1), (4, .ptr 0 3 0), (6, .int .i64 z6.1), (8, .int .i64 (fwrap .i64 (a1 + z6.2))), (35, .bool x2_11)]) (by kernel_rfl) ?_
     exact hj7 x2_11
    ·let E22 : Env := ((35, .bool false) :: (34, .bool false) :: (33, .tuple []) :: (32, .tuple []) :: (31, .tuple []) :: (30, .tuple []) :: (29, .bool false) :: E20)
     refine ok_run 7 (p' := g23p7) (env' := E22) (H' := (mkH [⟨[.int .i64 0, .str [], .int .i64 0], 0, false⟩])) (by kernel_rfl) ?_
     refine ok_keep [0, 1, 4, 6, 8, 35] (env' := [(0, .str a0), (1, .int .i64 a1), (4, .ptr 0 3 0), (6, .int .i64 z6.1), (8, .int .i64 (fwrap .i64 (a1 + z6.2))), (35, .bool false)]) (by kernel_rfl) ?_
     exact hj7 false
 ·refine ok_split 15 (b := decide (x0_2 = 0)) (by kernel_rfl) (fun hb => ?_) (fun hb => ?_)
  ·refine ok_run 4 (p' := (atN 2 (ctl1 g23p4))) (env' := ((17, .int .i64 a1) :: (16, .str a0) :: (15, .bool true) :: E2)) (H' := (mkH [⟨[.int .i64 0, .str [], .int .i64 0], 0, false⟩])) (by kernel_rfl) ?_
   refine ok_call (fun (x1_2 : Int) => .int .i64 x1_2) (atN 3 (ctl1 g23p4)) (fun x1_2 => ((18, .int .i64 x1_2) :: (17, .int .i64 a1) :: (16, .str a0) :: (15, .bool true) :: E2)) (fi := 44) (args := [.str a0, .int .i64 a1]) (by kernel_rfl) (by kernel_rfl) (fun _ => by kernel_rfl) (fun r h => g44_ok k a0 a1 r h) (fun _ => by kernel_rfl) (fun x1_2 hx1_2 => ?_)
   let E23 : Env := ((7, .int .i64 x1_2) :: (6, .int .i64 3) :: (18, .int .i64 x1_2) :: (17, .int .i64 a1) :: (16, .str a0) :: (15, .bool true) :: E2)
   refine ok_run 4 (p' := g23p5) (env' := E23) (H' := (mkH [⟨[.int .i64 0, .str [], .int .i64 0], 0, false⟩])) (by kernel_rfl) ?_
   refine ok_keep [0, 1, 4, 6, 7] (env' := [(0, .str a0), (1, .int .i64 a1), (4, .ptr 0 3 0), (6, .int .i64 3), (7, .int .i64 x1_2)]) (by kernel_rfl) ?_
   exact hj6 (3, x1_2)
  ·refine ok_run 3 (p' := g23p5) (env' := ((15, .bool false) :: E2)) (H' := (mkH [⟨[.int .i64 0, .str [], .int .i64 0], 0, false⟩])) (by kernel_rfl) ?_
   refine ok_keep [0, 1, 4, 6, 7] (env' := [(0, .str a0), (1, .int .i64 a1), (4, .ptr 0 3 0), (6, .int .i64 4), (7, .int .i64 x0_2)]) (by kernel_rfl) ?_
   exact hj6 (4, x0_2)
end
end Go.Proofs.Ytokcjgjgojlhbaa.Am
set_option maxRecDepth 100000
set_option linter.unusedVariables false
namespace Go.Proofs.Ytokcjgjgojlhbaa.Am
noncomputable section
open Go
def X24 : Fx Int := ⟨Try.prog, cx, Try.f24, fun r => .int .i64 r, 0, fun _ => H0, cxTi, cxOrd⟩
def g24p0 : Pt := nav [0] (bodyAt Try.f24)
def g24p1 : Pt := nav [0, 0, 0, 0, 0] g24p0
def g24p2 : Pt := nav [0, 0, 0] g24p1
def g24p3 : Pt := nav [0, 0] g24p2
def g24_l1 (k : Nat)  (a0 : (List Nat)) (n : Nat) : Int → Option Int :=
 Nat.rec (motive := fun _ => Int → Option Int) (fun _ => none) (fun _ ih => fun (y1_0 : Int) => jn (fun (z2 : Bool × Int) => if z2.1 then (ih (fwrap .i64 (z2.2 + 1))) else (some z2.2)) (fun j2 => if (decide (y1_0 < (a0.length : Int))) then ((nthS a0 y1_0).bind fun x0_7 => (g45 k x0_7).bind fun x0_8 => j2 (x0_8, y1_0)) else (j2 (false, y1_0)))) n
theorem g24_l1_s (k : Nat)  (a0 : (List Nat)) (n : Nat) (y1_0 : Int) : g24_l1 k a0 (n + 1) y1_0 = (jn (fun (z2 : Bool × Int) => if z2.1 then ((g24_l1 k a0 n) (fwrap .i64 (z2.2 + 1))) else (some z2.2)) (fun j2 => if (decide (y1_0 < (a0.length : Int))) then ((nthS a0 y1_0).bind fun x0_7 => (g45 k x0_7).bind fun x0_8 => j2 (x0_8, y1_0)) else (j2 (false, y1_0)))) := rfl
theorem g24_l1_ok (k : Nat)  (a0 : (List Nat))  : ∀ (n : Nat) (y1_0 : Int), Ok X24 g24p1 [(0, .str a0), (1, .int .i64 y1_0)] (mkH []) (g24_l1 k a0 n y1_0)
 | 0, _ => ok_none
 | n + 1, y1_0 => by
  have ih := g24_l1_ok k a0 n
  rw [g24_l1_s]
  refine ok_ent (p' := nav [0] g24p1) (by kernel_rfl) ?_
  let E1 : Env := [(9, .bool (decide (y1_0 < (a0.length : Int)))), (8, .bool (decide (y1_0 < (a0.length : Int)))), (7, .int .i64 (a0.length : Int)), (6, .str a0), (5, .int .i64 y1_0), (0, .str a0), (1, .int .i64 y1_0)]
  refine ok_run 8 (p' := (atN 5 (ctl1 g24p2))) (env' := E1) (H' := (mkH [])) (by kernel_rfl) ?_
  refine ok_jn (f := fun (z2 : Bool × Int) => if z2.1 then ((g24_l1 k a0 n) (fwrap .i64 (z2.2 + 1))) else (some z2.2)) g24p3 (fun (z2 : Bool × Int) => [(0, .str a0), (1, .int .i64 z2.2), (14, .bool z2.1)]) (fun (z2 : Bool × Int) => (mkH [])) (fun z2 => ?_) (fun j2 hj2 => ?_)
  ·refine ok_split 14 (b := z2.1) (by kernel_rfl) (fun hb => ?_) (fun hb => ?_)
   ·let E2 : Env := [(1, .int .i64 (fwrap .i64 (z2.2 + 1))), (16, .int .i64 (fwrap .i64 (z2.2 + 1))), (15, .int .i64 z2.2), (14, .bool true), (0, .str a0), (1, .int .i64 z2.2), (14, .bool z2.1)]
    refine ok_run 8 (p' := g24p1) (env' := E2) (H' := (mkH [])) (by kernel_rfl) ?_
    refine ok_keep [0, 1] (env' := [(0, .str a0), (1, .int .i64 (fwrap .i64 (z2.2 + 1)))]) (by kernel_rfl) ?_
    exact ih (fwrap .i64 (z2.2 + 1))
   ·let E3 : Env := [(4, .int .i64 z2.2), (17, .int .i64 z2.2), (14, .bool false), (0, .str a0), (1, .int .i64 z2.2), (14, .bool z2.1)]
    refine ok_run 8 (p' := .fin) (env' := E3) (H' := (mkH [])) (by kernel_rfl) ?_
    exact ok_ret (r := z2.2) (xs := [.int .i64 z2.2]) (v := .int .i64 z2.2) (by kernel_rfl) (by kernel_rfl) (by kernel_rfl) (.pures (by kernel_rfl)) (by kernel_rfl)
  ·refine ok_split 9 (b := decide (y1_0 < (a0.length : Int))) (by kernel_rfl) (fun hb => ?_) (fun hb => ?_)
   ·refine ok_run 2 (p' := (atN 7 (ctl1 g24p2))) (env' := ((11, .int .i64 y1_0) :: (10, .str a0) :: (9, .bool true) :: E1)) (H' := (mkH [])) (by kernel_rfl) ?_
    refine ok_chk (fun (x0_7 : Int) => (.int .u8 x0_7, (mkH []))) (atN 8 (ctl1 g24p2)) (fun x0_7 => ((12, .int .u8 x0_7) :: (11, .int .i64 y1_0) :: (10, .str a0) :: (9, .bool true) :: E1)) (idxH (by kernel_rfl)) (fun _ => by kernel_rfl) (fun x0_7 hx0_7 => ?_)
    refine ok_call (fun (x0_8 : Bool) => .bool x0_8) (atN 9 (ctl1 g24p2)) (fun x0_8 => ((13, .bool x0_8) :: (12, .int .u8 x0_7) :: (11, .int .i64 y1_0) :: (10, .str a0) :: (9, .bool true) :: E1)) (fi := 45) (args := [.int .u8 x0_7]) (by kernel_rfl) (by kernel_rfl) (fun _ => by kernel_rfl) (fun r h => g45_ok k x0_7 r h) (fun _ => by kernel_rfl) (fun x0_8 hx0_8 => ?_)
    let E4 : Env := ((14, .bool x0_8) :: (13, .bool x0_8) :: (12, .int .u8 x0_7) :: (11, .int .i64 y1_0) :: (10, .str a0) :: (9, .bool true) :: E1)
    refine ok_run 2 (p' := g24p3) (env' := E4) (H' := (mkH [])) (by kernel_rfl) ?_
    refine ok_keep [0, 1, 14] (env' := [(0, .str a0), (1, .int .i64 y1_0), (14, .bool x0_8)]) (by kernel_rfl) ?_
    exact hj2 (x0_8, y1_0)
   ·let E5 : Env := ((14, .bool false) :: (13, .tuple []) :: (12, .tuple []) :: (11, .tuple []) :: (10, .tuple []) :: (9, .bool false) :: E1)
    refine ok_run 6 (p' := g24p3) (env' := E5) (H' := (mkH [])) (by kernel_rfl) ?_
    refine ok_keep [0, 1, 14] (env' := [(0, .str a0), (1, .int .i64 y1_0), (14, .bool false)]) (by kernel_rfl) ?_
    exact hj2 (false, y1_0)
def g24 (k : Nat) (a0 : (List Nat)) (a1 : Int) : Option Int :=
 g24_l1 k a0 k a1
theorem g24_ok (k : Nat) (a0 : (List Nat)) (a1 : Int) (r : Int) (h : g24 k a0 a1 = some r) : PureOk Try.prog 24 [.str a0, .int .i64 a1] (.int .i64 r) := by
 refine pure_of X24 (fun _ => rfl) Try.func24 (by decide +kernel) (by kernel_rfl) (t := g24 k a0 a1) ?_ h
 unfold g24
 refine ok_env (env' := [(0, .str a0), (1, .int .i64 a1)]) (by kernel_rfl) ?_
 refine ok_run 7 (p' := g24p1) (env' := [(4, .int .i64 0), (0, .str a0), (1, .int .i64 a1)]) (H' := (mkH [])) (by kernel_rfl) ?_
 refine ok_keep [0, 1] (env' := [(0, .str a0), (1, .int .i64 a1)]) (by kernel_rfl) ?_
 exact (g24_l1_ok k a0 k) a1
end
end Go.Proofs.Ytokcjgjgojlhbaa.Am
set_option maxRecDepth 100000
set_option linter.unusedVariables false
namespace Go.Proofs.Ytokcjgjgojlhbaa.Am
noncomputable section
open Go
def X26 : Fx Int := ⟨Try.prog, cx, Try.f26, fun r => .int .i64 r, 0, fun _ => H0, cxTi, cxOrd⟩
def g26p0 : Pt := nav [0] (bodyAt Try.f26)
def g26p1 : Pt := nav [0, 0, 0] g26p0
def g26p2 : Pt := nav [0, 0, 0, 0, 0] g26p1
def g26p3 : Pt := nav [0, 0, 0] g26p2
def g26p4 : Pt := nav [0] g26p3
def g26p5 : Pt := nav [1, 0, 0, 0, 0] g26p4
def g26p6 : Pt := nav [2, 0, 0, 0] g26p4
def g26p7 : Pt := nav [0, 0] g26p5
def g26p8 : Pt := nav [0, 0] g26p6
def g26p10 : Pt := nav [2, 0, 0] g26p7
def g26p13 : Pt := nav [0, 0, 0, 0] g26p10
def g26p15 : Pt := nav [0, 0] g26p13
def g26_l3 (k : Nat)  (a0 : (List Nat)) (a1 : Int) (n : Nat) : Int → Option Int :=
 Nat.rec (motive := fun _ => Int → Option Int) (fun _ => none) (fun _ ih => fun (y3_0 : Int) => jn (fun (z4 : Bool × Int) => if z4.1 then ((nthS a0 z4.2).bind fun x1_2 => jn (fun (z5 : Int) => (g32 k a0 z5).bind fun x2_2 => jn (fun (z6 : Bool) => if z6 then (some (0 : Int)) else (ih (fwrap .i64 (z5 + x2_2.2)))) (fun j6 => if (decide (x2_2.1 < 32)) then (j6 true) else (j6 (decide (x2_2.1 = 127))))) (fun j5 => if (decide (x1_2 = 92)) then (j5 (fwrap .i64 (z4.2 + 1))) else (j5 z4.2))) else (if (decide ((a0.length : Int) ≤ z4.2)) then (some (0 : Int)) else (some (fwrap .i64 (fwrap .i64 (z4.2 + 1) - a1))))) (fun j4 => if (decide (y3_0 < (a0.length : Int))) then ((nthS a0 y3_0).bind fun x0_7 => (nthS a0 a1).bind fun x0_10 => j4 (!decide (x0_7 = x0_10), y3_0)) else (j4 (false, y3_0)))) n
theorem g26_l3_s (k : Nat)  (a0 : (List Nat)) (a1 : Int) (n : Nat) (y3_0 : Int) : g26_l3 k a0 a1 (n + 1) y3_0 = (jn (fun (z4 : Bool × Int) => if z4.1 then ((nthS a0 z4.2).bind fun x1_2 => jn (fun (z5 : Int) => (g32 k a0 z5).bind fun x2_2 => jn (fun (z6 : Bool) => if z6 then (some (0 : Int)) else ((g26_l3 k a0 a1 n) (fwrap .i64 (z5 + x2_2.2)))) (fun j6 => if (decide (x2_2.1 < 32)) then (j6 true) else (j6 (decide (x2_2.1 = 127))))) (fun j5 => if (decide (x1_2 = 92)) then (j5 (fwrap .i64 (z4.2 + 1))) else (j5 z4.2))) else (if (decide ((a0.length : Int) ≤ z4.2)) then (some (0 : Int)) else (some (fwrap .i64 (fwrap .i64 (z4.2 + 1) - a1))))) (fun j4 => if (decide (y3_0 < (a0.length : Int))) then ((nthS a0 y3_0).bind fun x0_7 => (nthS a0 a1).bind fun x0_10 => j4 (!decide (x0_7 = x0_10), y3_0)) else (j4 (false, y3_0)))) := rfl
theorem g26_l3_ok (k : Nat)  (a0 : (List Nat)) (a1 : Int)  : ∀ (n : Nat) (y3_0 : Int), Ok X26 g26p2 [(0, .str a0), (1, .int .i64 a1), (5, .int .i64 y3_0)] (mkH []) (g26_l3 k a0 a1 n y3_0)
 | 0, _ => ok_none
 | n + 1, y3_0 => by
  have ih := g26_l3_ok k a0 a1 n
  rw [g26_l3_s]
  refine ok_ent (p' := nav [0] g26p2) (by kernel_rfl) ?_
  refine ok_run 2 (p' := g26p3) (env' := [(0, .str a0), (1, .int .i64 a1), (5, .int .i64 y3_0)]) (H' := (mkH [])) (by kernel_rfl) ?_
  refine ok_jn (f := fun (z4 : Bool × Int) => if z4.1 then ((nthS a0 z4.2).bind fun x1_2 => jn (fun (z5 : Int) => (g32 k a0 z5).bind fun x2_2 => jn (fun (z6 : Bool) => if z6 then (some (0 : Int)) else ((g26_l3 k a0 a1 n) (fwrap .i64 (z5 + x2_2.2)))) (fun j6 => if (decide (x2_2.1 < 32)) then (j6 true) else (j6 (decide (x2_2.1 = 127))))) (fun j5 => if (decide (x1_2 = 92)) then (j5 (fwrap .i64 (z4.2 + 1))) else (j5 z4.2))) else (if (decide ((a0.length : Int) ≤ z4.2)) then (some (0 : Int)) else (some (fwrap .i64 (fwrap .i64 (z4.2 + 1) - a1))))) g26p4 (fun (z4 : Bool × Int) => [(0, .str a0), (1, .int .i64 a1), (5, .int .i64 z4.2), (22, .bool z4.1)]) (fun (z4 : Bool × Int) => (mkH [])) (fun z4 => ?_) (fun j4 hj4 => ?_)
  ·refine ok_split 22 (b := z4.1) (by kernel_rfl) (fun hb => ?_) (fun hb => ?_)
   ·let E2 : Env := [(24, .int .i64 z4.2), (23, .str a0), (22, .bool true), (0, .str a0), (1, .int .i64 a1), (5, .int .i64 z4.2), (22, .bool z4.1)]
    refine ok_run 8 (p' := (atN 2 (ctl1 g26p5))) (env' := E2) (H' := (mkH [])) (by kernel_rfl) ?_
    refine ok_chk (fun (x1_2 : Int) => (.int .u8 x1_2, (mkH []))) (atN 3 (ctl1 g26p5)) (fun x1_2 => ((25, .int .u8 x1_2) :: E2)) (idxH (by kernel_rfl)) (fun _ => by kernel_rfl) (fun x1_2 hx1_2 => ?_)
    refine ok_run 2 (p' := g26p7) (env' := ((26, .bool (decide (x1_2 = 92))) :: (25, .int .u8 x1_2) :: E2)) (H' := (mkH [])) (by kernel_rfl) ?_
    refine ok_jn (f := fun (z5 : Int) => (g32 k a0 z5).bind fun x2_2 => jn (fun (z6 : Bool) => if z6 then (some (0 : Int)) else ((g26_l3 k a0 a1 n) (fwrap .i64 (z5 + x2_2.2)))) (fun j6 => if (decide (x2_2.1 < 32)) then (j6 true) else (j6 (decide (x2_2.1 = 127))))) g26p10 (fun (z5 : Int) => [(0, .str a0), (1, .int .i64 a1), (5, .int .i64 z5)]) (fun (z5 : Int) => (mkH [])) (fun z5 => ?_) (fun j5 hj5 => ?_)
    ·let E3 : Env := [(31, .int .i64 z5), (30, .str a0), (0, .str a0), (1, .int .i64 a1), (5, .int .i64 z5)]
     refine ok_run 3 (p' := (atN 2 (ctl1 g26p10))) (env' := E3) (H' := (mkH [])) (by kernel_rfl) ?_
     refine ok_call (fun (x2_2 : (Int × Int)) => .tuple [.int .i64 x2_2.1, .int .i64 x2_2.2]) (atN 3 (ctl1 g26p10)) (fun x2_2 => ((32, .tuple [.int .i64 x2_2.1, .int .i64 x2_2.2]) :: E3)) (fi := 32) (args := [.str a0, .int .i64 z5]) (by kernel_rfl) (by kernel_rfl) (fun _ => by kernel_rfl) (fun r h => g32_ok k a0 z5 r h) (fun _ => by kernel_rfl) (fun x2_2 hx2_2 => ?_)
     let E4 : Env := ((37, .bool (decide (x2_2.1 < 32))) :: (36, .bool (decide (x2_2.1 < 32))) :: (35, .int .i64 x2_2.1) :: (7, .int .i64 x2_2.2) :: (6, .int .i64 x2_2.1) :: (34, .int .i64 x2_2.2) :: (33, .int .i64 x2_2.1) :: (29, .tuple [.int .i64 x2_2.1, .int .i64 x2_2.2]) :: (32, .tuple [.int .i64 x2_2.1, .int .i64 x2_2.2]) :: E3)
     refine ok_run 12 (p' := (atN 3 (ctl1 g26p13))) (env' := E4) (H' := (mkH [])) (by kernel_rfl) ?_
     refine ok_jn (f := fun (z6 : Bool) => if z6 then (some (0 : Int)) else ((g26_l3 k a0 a1 n) (fwrap .i64 (z5 + x2_2.2)))) g26p15 (fun (z6 : Bool) => [(0, .str a0), (1, .int .i64 a1), (5, .int .i64 z5), (7, .int .i64 x2_2.2), (40, .bool z6)]) (fun (z6 : Bool) => (mkH [])) (fun z6 => ?_) (fun j6 hj6 => ?_)
     ·refine ok_split 40 (b := z6) (by kernel_rfl) (fun hb => ?_) (fun hb => ?_)
      ·let E5 : Env := [(4, .int .i64 0), (40, .bool true), (0, .str a0), (1, .int .i64 a1), (5, .int .i64 z5), (7, .int .i64 x2_2.2), (40, .bool z6)]
       refine ok_run 6 (p' := .fin) (env' := E5) (H' := (mkH [])) (by kernel_rfl) ?_
       exact ok_ret (r := (0 : Int)) (xs := [.int .i64 0]) (v := .int .i64 0) (by kernel_rfl) (by kernel_rfl) (by kernel_rfl) (.pures (by kernel_rfl)) (by kernel_rfl)
      ·let E6 : Env := [(5, .int .i64 (fwrap .i64 (z5 + x2_2.2))), (43, .int .i64 (fwrap .i64 (z5 + x2_2.2))), (42, .int .i64 x2_2.2), (41, .int .i64 z5), (40, .bool false), (0, .str a0), (1, .int .i64 a1), (5, .int .i64 z5), (7, .int .i64 x2_2.2), (40, .bool z6)]
       refine ok_run 8 (p' := g26p2) (env' := E6) (H' := (mkH [])) (by kernel_rfl) ?_
       refine ok_keep [0, 1, 5] (env' := [(0, .str a0), (1, .int .i64 a1), (5, .int .i64 (fwrap .i64 (z5 + x2_2.2)))]) (by kernel_rfl) ?_
       exact ih (fwrap .i64 (z5 + x2_2.2))
     ·refine ok_split 37 (b := decide (x2_2.1 < 32)) (by kernel_rfl) (fun hb => ?_) (fun hb => ?_)
      ·refine ok_run 4 (p' := g26p15) (env' := ((40, .bool true) :: (39, .tuple []) :: (38, .tuple []) :: (37, .bool true) :: E4)) (H' := (mkH [])) (by kernel_rfl) ?_
       refine ok_keep [0, 1, 5, 7, 40] (env' := [(0, .str a0), (1, .int .i64 a1), (5, .int .i64 z5), (7, .int .i64 x2_2.2), (40, .bool true)]) (by kernel_rfl) ?_
       exact hj6 true
      ·refine ok_run 4 (p' := g26p15) (env' := ((40, .bool (decide (x2_2.1 = 127))) :: (39, .bool (decide (x2_2.1 = 127))) :: (38, .int .i64 x2_2.1) :: (37, .bool false) :: E4)) (H' := (mkH [])) (by kernel_rfl) ?_
       refine ok_keep [0, 1, 5, 7, 40] (env' := [(0, .str a0), (1, .int .i64 a1), (5, .int .i64 z5), (7, .int .i64 x2_2.2), (40, .bool (decide (x2_2.1 = 127)))]) (by kernel_rfl) ?_
       exact hj6 (decide (x2_2.1 = 127))
    ·refine ok_split 26 (b := decide (x1_2 = 92)) (by kernel_rfl) (fun hb => ?_) (fun hb => ?_)
     ·let E7 : Env := ((5, .int .i64 (fwrap .i64 (z4.2 + 1))) :: (28, .int .i64 (fwrap .i64 (z4.2 + 1))) :: (27, .int .i64 z4.2) :: (26, .bool true) :: (26, .bool (decide (x1_2 = 92))) :: (25, .int .u8 x1_2) :: E2)
      refine ok_run 7 (p' := g26p10) (env' := E7) (H' := (mkH [])) (by kernel_rfl) ?_
      refine ok_keep [0, 1, 5] (env' := [(0, .str a0), (1, .int .i64 a1), (5, .int .i64 (fwrap .i64 (z4.2 + 1)))]) (by kernel_rfl) ?_
      exact hj5 (fwrap .i64 (z4.2 + 1))
     ·refine ok_run 3 (p' := g26p10) (env' := ((26, .bool false) :: (26, .bool (decide (x1_2 = 92))) :: (25, .int .u8 x1_2) :: E2)) (H' := (mkH [])) (by kernel_rfl) ?_
      refine ok_keep [0, 1, 5] (env' := [(0, .str a0), (1, .int .i64 a1), (5, .int .i64 z4.2)]) (by kernel_rfl) ?_
      exact hj5 z4.2
   ·let E8 : Env := [(47, .bool (decide ((a0.length : Int) ≤ z4.2))), (46, .int .i64 (a0.length : Int)), (45, .str a0), (44, .int .i64 z4.2), (22, .bool false), (0, .str a0), (1, .int .i64 a1), (5, .int .i64 z4.2), (22, .bool z4.1)]
    refine ok_run 10 (p' := g26p8) (env' := E8) (H' := (mkH [])) (by kernel_rfl) ?_
    refine ok_split 47 (b := decide ((a0.length : Int) ≤ z4.2)) (by kernel_rfl) (fun hb => ?_) (fun hb => ?_)
    ·refine ok_run 6 (p' := .fin) (env' := ((4, .int .i64 0) :: (47, .bool true) :: E8)) (H' := (mkH [])) (by kernel_rfl) ?_
     exact ok_ret (r := (0 : Int)) (xs := [.int .i64 0]) (v := .int .i64 0) (by kernel_rfl) (by kernel_rfl) (by kernel_rfl) (.pures (by kernel_rfl)) (by kernel_rfl)
    ·let E9 : Env := ((4, .int .i64 (fwrap .i64 (fwrap .i64 (z4.2 + 1) - a1))) :: (51, .int .i64 (fwrap .i64 (fwrap .i64 (z4.2 + 1) - a1))) :: (50, .int .i64 a1) :: (49, .int .i64 (fwrap .i64 (z4.2 + 1))) :: (48, .int .i64 z4.2) :: (47, .bool false) :: E8)
     refine ok_run 11 (p' := .fin) (env' := E9) (H' := (mkH [])) (by kernel_rfl) ?_
     exact ok_ret (r := (fwrap .i64 (fwrap .i64 (z4.2 + 1) - a1))) (xs := [.int .i64 (fwrap .i64 (fwrap .i64 (z4.2 + 1) - a1))]) (v := .int .i64 (fwrap .i64 (fwrap .i64 (z4.2 + 1) - a1))) (by kernel_rfl) (by kernel_rfl) (by kernel_rfl) (.pures (by kernel_rfl)) (by kernel_rfl)
  ·refine ok_if (fun hb4 => ?_) (fun hb4 => ?_)
   ·refine ok_bind (fun x0_7 hx0_7 => ?_)
    refine ok_bind (fun x0_10 hx0_10 => ?_)
    let E10 : Env := [(14, .bool (decide (y3_0 < (a0.length : Int)))), (13, .bool (decide (y3_0 < (a0.length : Int)))), (12, .int .i64 (a0.length : Int)), (11, .str a0), (10, .int .i64 y3_0), (0, .str a0), (1, .int .i64 a1), (5, .int .i64 y3_0)]
    let E11 : Env := [(16, .int .i64 y3_0), (15, .str a0), (14, .bool true), (13, .bool true), (12, .int .i64 (a0.length : Int)), (11, .str a0), (10, .int .i64 y3_0), (0, .str a0), (1, .int .i64 a1), (5, .int .i64 y3_0)]
    let E12 : Env := ((22, .bool (!decide (x0_7 = x0_10))) :: (21, .bool (!decide (x0_7 = x0_10))) :: (20, .int .u8 x0_10) :: (19, .int .i64 a1) :: (18, .str a0) :: (17, .int .u8 x0_7) :: E11)
    refine ok_draw (p' := nav [0] g26p3) (env' := E12) (H' := (mkH [])) (hs := []) [(0, 0, 0), (0, 0, 0), (2, 0, 0), (7, 0, 0), (15, 0, 0), (31, 0, 0), (31, 0, 0), (127, 0, 0), (31, 0, 0), (31, 0, 0), (799, 0, 0), (2047, 0, 0), (4095, 0, 0)] (by kernel_rfl) (by kernel_rfl) (by kernel_rfl) (opsD_run 5 (l' := (opsAt g26p3).toList.drop 5) (env' := E10) (H' := (mkH [])) (hs := []) (by kernel_rfl) (opsD_env (env' := [(14, .bool true), (13, .bool true), (12, .int .i64 (a0.length : Int)), (11, .str a0), (10, .int .i64 y3_0), (0, .str a0), (1, .int .i64 a1), (5, .int .i64 y3_0)]) (congrArg (fun z : Bool => ([(14, .bool z), (13, .bool z), (12, .int .i64 (a0.length : Int)), (11, .str a0), (10, .int .i64 y3_0), (0, .str a0), (1, .int .i64 a1), (5, .int .i64 y3_0)] : Env)) hb4) (opsD_run 2 (l' := (opsAt g26p3).toList.drop 7) (env' := E11) (H' := (mkH [])) (hs := []) (by kernel_rfl) (opsD_chk (l' := (opsAt g26p3).toList.drop 8) (env' := ((17, .int .u8 x0_7) :: E11)) (hs := []) (x := x0_7) (fun (x0_7 : Int) => (.int .u8 x0_7, (mkH []))) (idxH (by kernel_rfl)) hx0_7 (by kernel_rfl) (opsD_run 2 (l' := (opsAt g26p3).toList.drop 10) (env' := ((19, .int .i64 a1) :: (18, .str a0) :: (17, .int .u8 x0_7) :: E11)) (H' := (mkH [])) (hs := []) (by kernel_rfl) (opsD_chk (l' := (opsAt g26p3).toList.drop 11) (env' := ((20, .int .u8 x0_10) :: (19, .int .i64 a1) :: (18, .str a0) :: (17, .int .u8 x0_7) :: E11)) (hs := []) (x := x0_10) (fun (x0_10 : Int) => (.int .u8 x0_10, (mkH []))) (idxH (by kernel_rfl)) hx0_10 (by kernel_rfl) (opsD_run 2 (l' := (opsAt g26p3).toList.drop 13) (env' := E12) (H' := (mkH [])) (hs := []) (by kernel_rfl) (.nil)))))))) (by kernel_rfl) (by kernel_rfl) (by kernel_rfl) ?_
    refine ok_keep [0, 1, 5, 22] (env' := [(0, .str a0), (1, .int .i64 a1), (5, .int .i64 y3_0), (22, .bool (!decide (x0_7 = x0_10)))]) (by kernel_rfl) ?_
    exact hj4 (!decide (x0_7 = x0_10), y3_0)
   ·let E10 : Env := [(14, .bool (decide (y3_0 < (a0.length : Int)))), (13, .bool (decide (y3_0 < (a0.length : Int)))), (12, .int .i64 (a0.length : Int)), (11, .str a0), (10, .int .i64 y3_0), (0, .str a0), (1, .int .i64 a1), (5, .int .i64 y3_0)]
    let E13 : Env := [(22, .bool false), (21, .tuple []), (20, .tuple []), (19, .tuple []), (18, .tuple []), (17, .tuple []), (16, .tuple []), (15, .tuple []), (14, .bool false), (13, .bool false), (12, .int .i64 (a0.length : Int)), (11, .str a0), (10, .int .i64 y3_0), (0, .str a0), (1, .int .i64 a1), (5, .int .i64 y3_0)]
    refine ok_draw (p' := nav [0] g26p3) (env' := E13) (H' := (mkH [])) (hs := []) [(0, 0, 0), (0, 0, 0), (2, 0, 0), (7, 0, 0), (15, 0, 0), (31, 0, 0), (31, 0, 0), (127, 0, 0), (31, 0, 0), (31, 0, 0), (799, 0, 0), (2047, 0, 0), (4095, 0, 0)] (by kernel_rfl) (by kernel_rfl) (by kernel_rfl) (opsD_run 5 (l' := (opsAt g26p3).toList.drop 5) (env' := E10) (H' := (mkH [])) (hs := []) (by kernel_rfl) (opsD_env (env' := [(14, .bool false), (13, .bool false), (12, .int .i64 (a0.length : Int)), (11, .str a0), (10, .int .i64 y3_0), (0, .str a0), (1, .int .i64 a1), (5, .int .i64 y3_0)]) (congrArg (fun z : Bool => ([(14, .bool z), (13, .bool z), (12, .int .i64 (a0.length : Int)), (11, .str a0), (10, .int .i64 y3_0), (0, .str a0), (1, .int .i64 a1), (5, .int .i64 y3_0)] : Env)) hb4) (opsD_run 8 (l' := (opsAt g26p3).toList.drop 13) (env' := E13) (H' := (mkH [])) (hs := []) (by kernel_rfl) (.nil)))) (by kernel_rfl) (by kernel_rfl) (by kernel_rfl) ?_
    refine ok_keep [0, 1, 5, 22] (env' := [(0, .str a0), (1, .int .i64 a1), (5, .int .i64 y3_0), (22, .bool false)]) (by kernel_rfl) ?_
    exact hj4 (false, y3_0)
def g26 (k : Nat) (a0 : (List Nat)) (a1 : Int) : Option Int :=
 g26_l3 k a0 a1 k (fwrap .i64 (a1 + 1))
theorem g26_ok (k : Nat) (a0 : (List Nat)) (a1 : Int) (r : Int) (h : g26 k a0 a1 = some r) : PureOk Try.prog 26 [.str a0, .int .i64 a1] (.int .i64 r) := by
 refine pure_of X26 (fun _ => rfl) Try.func26 (by decide +kernel) (by kernel_rfl) (t := g26 k a0 a1) ?_ h
 unfold g26
 refine ok_env (env' := [(0, .str a0), (1, .int .i64 a1)]) (by kernel_rfl) ?_
 let E1 : Env := [(5, .int .i64 (fwrap .i64 (a1 + 1))), (9, .int .i64 (fwrap .i64 (a1 + 1))), (8, .int .i64 a1), (4, .int .i64 0), (0, .str a0), (1, .int .i64 a1)]
 refine ok_run 13 (p' := g26p2) (env' := E1) (H' := (mkH [])) (by kernel_rfl) ?_
 refine ok_keep [0, 1, 5] (env' := [(0, .str a0), (1, .int .i64 a1), (5, .int .i64 (fwrap .i64 (a1 + 1)))]) (by kernel_rfl) ?_
 exact (g26_l3_ok k a0 a1 k) (fwrap .i64 (a1 + 1))
end
end Go.Proofs.Ytokcjgjgojlhbaa.Am
set_option maxRecDepth 100000
set_option linter.unusedVariables false
namespace Go.Proofs.Ytokcjgjgojlhbaa.Am
noncomputable section
open Go
def X27 : Fx Int := ⟨Try.prog, cx, Try.f27, fun r => .int .i64 r, 0, fun _ => H0, cxTi, cxOrd⟩
def g27p0 : Pt := nav [0] (bodyAt Try.f27)
def g27p1 : Pt := nav [0, 0, 0, 0] g27p0
def g27p2 : Pt := nav [0, 0] g27p1
def g27p3 : Pt := nav [1, 0, 0] g27p2
def g27p4 : Pt := nav [2, 0, 0] g27p2
def g27p5 : Pt := nav [0, 0, 0] g27p3
def g27p6 : Pt := nav [0, 0, 0, 0] g27p4
def g27p7 : Pt := nav [0, 0] g27p5
def g27p8 : Pt := nav [0, 0] g27p6
def g27 (k : Nat) (a0 : (List Nat)) (a1 : Int) : Option Int :=
 jn (fun (z3 : Bool) => if z3 then ((g46 k a0 (fwrap .i64 (a1 + 1))).bind fun x1_3 => if (decide (0 ≤ x1_3.1)) then (some (fwrap .i64 (x1_3.2 + 1))) else (some (0 : Int))) else ((g32 k a0 (fwrap .i64 (a1 + 1))).bind fun x2_3 => jn (fun (z4 : Bool) => if z4 then (some (0 : Int)) else (some (fwrap .i64 (x2_3.2 + 1)))) (fun j4 => if (decide (x2_3.1 ≤ 32)) then (j4 true) else (j4 (decide (x2_3.1 = 127)))))) (fun j3 => if (decide (fwrap .i64 (a1 + 1) < (a0.length : Int))) then ((nthS a0 (fwrap .i64 (a1 + 1))).bind fun x0_9 => j3 (decide (x0_9 = 92))) else (j3 false))
theorem g27_ok (k : Nat) (a0 : (List Nat)) (a1 : Int) (r : Int) (h : g27 k a0 a1 = some r) : PureOk Try.prog 27 [.str a0, .int .i64 a1] (.int .i64 r) := by
 refine pure_of X27 (fun _ => rfl) Try.func27 (by decide +kernel) (by kernel_rfl) (t := g27 k a0 a1) ?_ h
 unfold g27
 refine ok_env (env' := [(0, .str a0), (1, .int .i64 a1)]) (by kernel_rfl) ?_
 let E1 : Env := [(14, .bool (decide (fwrap .i64 (a1 + 1) < (a0.length : Int)))), (13, .bool (decide (fwrap .i64 (a1 + 1) < (a0.length : Int)))), (12, .int .i64 (a0.length : Int)), (11, .str a0), (10, .int .i64 (fwrap .i64 (a1 + 1))), (9, .int .i64 a1), (4, .int .i64 0), (0, .str a0), (1, .int .i64 a1)]
 refine ok_run 13 (p' := (atN 6 (ctl1 g27p1))) (env' := E1) (H' := (mkH [])) (by kernel_rfl) ?_
 refine ok_jn (f := fun (z3 : Bool) => if z3 then ((g46 k a0 (fwrap .i64 (a1 + 1))).bind fun x1_3 => if (decide (0 ≤ x1_3.1)) then (some (fwrap .i64 (x1_3.2 + 1))) else (some (0 : Int))) else ((g32 k a0 (fwrap .i64 (a1 + 1))).bind fun x2_3 => jn (fun (z4 : Bool) => if z4 then (some (0 : Int)) else (some (fwrap .i64 (x2_3.2 + 1)))) (fun j4 => if (decide (x2_3.1 ≤ 32)) then (j4 true) else (j4 (decide (x2_3.1 = 127)))))) g27p2 (fun (z3 : Bool) => [(0, .str a0), (1, .int .i64 a1), (20, .bool z3)]) (fun (z3 : Bool) => (mkH [])) (fun z3 => ?_) (fun j3 hj3 => ?_)
 ·refine ok_split 20 (b := z3) (by kernel_rfl) (fun hb => ?_) (fun hb => ?_)
  ·let E2 : Env := [(24, .int .i64 (fwrap .i64 (a1 + 1))), (23, .int .i64 a1), (22, .str a0), (20, .bool true), (0, .str a0), (1, .int .i64 a1), (20, .bool z3)]
   refine ok_run 7 (p' := (atN 3 (ctl1 g27p3))) (env' := E2) (H' := (mkH [])) (by kernel_rfl) ?_
   refine ok_call (fun (x1_3 : (Int × Int)) => .tuple [.int .i64 x1_3.1, .int .i64 x1_3.2]) (atN 4 (ctl1 g27p3)) (fun x1_3 => ((25, .tuple [.int .i64 x1_3.1, .int .i64 x1_3.2]) :: E2)) (fi := 46) (args := [.str a0, .int .i64 (fwrap .i64 (a1 + 1))]) (by kernel_rfl) (by kernel_rfl) (fun _ => by kernel_rfl) (fun r h => g46_ok k a0 (fwrap .i64 (a1 + 1)) r h) (fun _ => by kernel_rfl) (fun x1_3 hx1_3 => ?_)
   let E3 : Env := ((6, .int .i64 x1_3.2) :: (5, .int .i64 x1_3.1) :: (27, .int .i64 x1_3.2) :: (26, .int .i64 x1_3.1) :: (21, .tuple [.int .i64 x1_3.1, .int .i64 x1_3.2]) :: (25, .tuple [.int .i64 x1_3.1, .int .i64 x1_3.2]) :: E2)
   refine ok_run 7 (p' := g27p5) (env' := E3) (H' := (mkH [])) (by kernel_rfl) ?_
   refine ok_keep [5, 6] (env' := [(5, .int .i64 x1_3.1), (6, .int .i64 x1_3.2)]) (by kernel_rfl) ?_
   refine ok_run 4 (p' := g27p7) (env' := [(29, .bool (decide (0 ≤ x1_3.1))), (28, .int .i64 x1_3.1), (5, .int .i64 x1_3.1), (6, .int .i64 x1_3.2)]) (H' := (mkH [])) (by kernel_rfl) ?_
   refine ok_split 29 (b := decide (0 ≤ x1_3.1)) (by kernel_rfl) (fun hb => ?_) (fun hb => ?_)
   ·let E4 : Env := [(4, .int .i64 (fwrap .i64 (x1_3.2 + 1))), (31, .int .i64 (fwrap .i64 (x1_3.2 + 1))), (30, .int .i64 x1_3.2), (29, .bool true), (29, .bool (decide (0 ≤ x1_3.1))), (28, .int .i64 x1_3.1), (5, .int .i64 x1_3.1), (6, .int .i64 x1_3.2)]
    refine ok_run 8 (p' := .fin) (env' := E4) (H' := (mkH [])) (by kernel_rfl) ?_
    exact ok_ret (r := (fwrap .i64 (x1_3.2 + 1))) (xs := [.int .i64 (fwrap .i64 (x1_3.2 + 1))]) (v := .int .i64 (fwrap .i64 (x1_3.2 + 1))) (by kernel_rfl) (by kernel_rfl) (by kernel_rfl) (.pures (by kernel_rfl)) (by kernel_rfl)
   ·let E5 : Env := [(4, .int .i64 0), (29, .bool false), (29, .bool (decide (0 ≤ x1_3.1))), (28, .int .i64 x1_3.1), (5, .int .i64 x1_3.1), (6, .int .i64 x1_3.2)]
    refine ok_run 7 (p' := .fin) (env' := E5) (H' := (mkH [])) (by kernel_rfl) ?_
    exact ok_ret (r := (0 : Int)) (xs := [.int .i64 0]) (v := .int .i64 0) (by kernel_rfl) (by kernel_rfl) (by kernel_rfl) (.pures (by kernel_rfl)) (by kernel_rfl)
  ·let E6 : Env := [(35, .int .i64 (fwrap .i64 (a1 + 1))), (34, .int .i64 a1), (33, .str a0), (20, .bool false), (0, .str a0), (1, .int .i64 a1), (20, .bool z3)]
   refine ok_run 7 (p' := (atN 3 (ctl1 g27p4))) (env' := E6) (H' := (mkH [])) (by kernel_rfl) ?_
   refine ok_call (fun (x2_3 : (Int × Int)) => .tuple [.int .i64 x2_3.1, .int .i64 x2_3.2]) (atN 4 (ctl1 g27p4)) (fun x2_3 => ((36, .tuple [.int .i64 x2_3.1, .int .i64 x2_3.2]) :: E6)) (fi := 32) (args := [.str a0, .int .i64 (fwrap .i64 (a1 + 1))]) (by kernel_rfl) (by kernel_rfl) (fun _ => by kernel_rfl) (fun r h => g32_ok k a0 (fwrap .i64 (a1 + 1)) r h) (fun _ => by kernel_rfl) (fun x2_3 hx2_3 => ?_)
   let E7 : Env := ((8, .int .i64 x2_3.2) :: (7, .int .i64 x2_3.1) :: (38, .int .i64 x2_3.2) :: (37, .int .i64 x2_3.1) :: (32, .tuple [.int .i64 x2_3.1, .int .i64 x2_3.2]) :: (36, .tuple [.int .i64 x2_3.1, .int .i64 x2_3.2]) :: E6)
   refine ok_run 8 (p' := g27p6) (env' := E7) (H' := (mkH [])) (by kernel_rfl) ?_
   refine ok_keep [7, 8] (env' := [(7, .int .i64 x2_3.1), (8, .int .i64 x2_3.2)]) (by kernel_rfl) ?_
   let E8 : Env := [(41, .bool (decide (x2_3.1 ≤ 32))), (40, .bool (decide (x2_3.1 ≤ 32))), (39, .int .i64 x2_3.1), (7, .int .i64 x2_3.1), (8, .int .i64 x2_3.2)]
   refine ok_run 4 (p' := (atN 3 (ctl1 g27p6))) (env' := E8) (H' := (mkH [])) (by kernel_rfl) ?_
   refine ok_jn (f := fun (z4 : Bool) => if z4 then (some (0 : Int)) else (some (fwrap .i64 (x2_3.2 + 1)))) g27p8 (fun (z4 : Bool) => [(8, .int .i64 x2_3.2), (44, .bool z4)]) (fun (z4 : Bool) => (mkH [])) (fun z4 => ?_) (fun j4 hj4 => ?_)
   ·refine ok_split 44 (b := z4) (by kernel_rfl) (fun hb => ?_) (fun hb => ?_)
    ·refine ok_run 6 (p' := .fin) (env' := [(4, .int .i64 0), (44, .bool true), (8, .int .i64 x2_3.2), (44, .bool z4)]) (H' := (mkH [])) (by kernel_rfl) ?_
     exact ok_ret (r := (0 : Int)) (xs := [.int .i64 0]) (v := .int .i64 0) (by kernel_rfl) (by kernel_rfl) (by kernel_rfl) (.pures (by kernel_rfl)) (by kernel_rfl)
    ·let E9 : Env := [(4, .int .i64 (fwrap .i64 (x2_3.2 + 1))), (46, .int .i64 (fwrap .i64 (x2_3.2 + 1))), (45, .int .i64 x2_3.2), (44, .bool false), (8, .int .i64 x2_3.2), (44, .bool z4)]
     refine ok_run 9 (p' := .fin) (env' := E9) (H' := (mkH [])) (by kernel_rfl) ?_
     exact ok_ret (r := (fwrap .i64 (x2_3.2 + 1))) (xs := [.int .i64 (fwrap .i64 (x2_3.2 + 1))]) (v := .int .i64 (fwrap .i64 (x2_3.2 + 1))) (by kernel_rfl) (by kernel_rfl) (by kernel_rfl) (.pures (by kernel_rfl)) (by kernel_rfl)
   ·refine ok_split 41 (b := decide (x2_3.1 ≤ 32)) (by kernel_rfl) (fun hb => ?_) (fun hb => ?_)
    ·refine ok_run 4 (p' := g27p8) (env' := ((44, .bool true) :: (43, .tuple []) :: (42, .tuple []) :: (41, .bool true) :: E8)) (H' := (mkH [])) (by kernel_rfl) ?_
     refine ok_keep [8, 44] (env' := [(8, .int .i64 x2_3.2), (44, .bool true)]) (by kernel_rfl) ?_
     exact hj4 true
    ·refine ok_run 4 (p' := g27p8) (env' := ((44, .bool (decide (x2_3.1 = 127))) :: (43, .bool (decide (x2_3.1 = 127))) :: (42, .int .i64 x2_3.1) :: (41, .bool false) :: E8)) (H' := (mkH [])) (by kernel_rfl) ?_
     refine ok_keep [8, 44] (env' := [(8, .int .i64 x2_3.2), (44, .bool (decide (x2_3.1 = 127)))]) (by kernel_rfl) ?_
     exact hj4 (decide (x2_3.1 = 127))
 ·refine ok_split 14 (b := decide (fwrap .i64 (a1 + 1) < (a0.length : Int))) (by kernel_rfl) (fun hb => ?_) (fun hb => ?_)
  ·refine ok_run 3 (p' := (atN 9 (ctl1 g27p1))) (env' := ((17, .int .i64 (fwrap .i64 (a1 + 1))) :: (16, .int .i64 a1) :: (15, .str a0) :: (14, .bool true) :: E1)) (H' := (mkH [])) (by kernel_rfl) ?_
   refine ok_chk (fun (x0_9 : Int) => (.int .u8 x0_9, (mkH []))) (atN 10 (ctl1 g27p1)) (fun x0_9 => ((18, .int .u8 x0_9) :: (17, .int .i64 (fwrap .i64 (a1 + 1))) :: (16, .int .i64 a1) :: (15, .str a0) :: (14, .bool true) :: E1)) (idxH (by kernel_rfl)) (fun _ => by kernel_rfl) (fun x0_9 hx0_9 => ?_)
   let E10 : Env := ((20, .bool (decide (x0_9 = 92))) :: (19, .bool (decide (x0_9 = 92))) :: (18, .int .u8 x0_9) :: (17, .int .i64 (fwrap .i64 (a1 + 1))) :: (16, .int .i64 a1) :: (15, .str a0) :: (14, .bool true) :: E1)
   refine ok_run 3 (p' := g27p2) (env' := E10) (H' := (mkH [])) (by kernel_rfl) ?_
   refine ok_keep [0, 1, 20] (env' := [(0, .str a0), (1, .int .i64 a1), (20, .bool (decide (x0_9 = 92)))]) (by kernel_rfl) ?_
   exact hj3 (decide (x0_9 = 92))
  ·let E11 : Env := ((20, .bool false) :: (19, .tuple []) :: (18, .tuple []) :: (17, .tuple []) :: (16, .tuple []) :: (15, .tuple []) :: (14, .bool false) :: E1)
   refine ok_run 7 (p' := g27p2) (env' := E11) (H' := (mkH [])) (by kernel_rfl) ?_
   refine ok_keep [0, 1, 20] (env' := [(0, .str a0), (1, .int .i64 a1), (20, .bool false)]) (by kernel_rfl) ?_
   exact hj3 false
end
end Go.Proofs.Ytokcjgjgojlhbaa.Am
set_option maxRecDepth 100000
set_option linter.unusedVariables false
namespace Go.Proofs.Ytokcjgjgojlhbaa.Am
noncomputable section
open Go
def X15 : Fx (S28 × Int) := ⟨Try.prog, cx, Try.f15, fun r => .tuple [.agg [.int .i64 r.1.f0, .str r.1.f1, .int .i64 r.1.f2], .int .i64 r.2], 0, fun _ => H0, cxTi, cxOrd⟩
def g15p0 : Pt := nav [0] (bodyAt Try.f15)
def g15p1 : Pt := nav [0, 0, 0, 0] g15p0
def g15p2 : Pt := nav [0, 0] g15p1
def g15p4 : Pt := nav [2, 0, 0] g15p2
def g15p6 : Pt := nav [0, 0, 0] g15p4
def g15p7 : Pt := nav [0, 0, 0, 0, 0] g15p6
def g15p8 : Pt := nav [0, 0] g15p7
def g15p9 : Pt := nav [1, 0] g15p8
def g15p10 : Pt := nav [2, 0] g15p8
def g15p11 : Pt := nav [0, 0, 0, 0, 0] g15p9
def g15p12 : Pt := nav [0, 0] g15p10
def g15p13 : Pt := nav [0, 0, 0] g15p11
def g15p14 : Pt := nav [1] g15p12
def g15p15 : Pt := nav [2, 0] g15p12
def g15p16 : Pt := nav [0, 0] g15p13
def g15p17 : Pt := nav [0, 0, 0, 0] g15p14
def g15p18 : Pt := nav [0, 0] g15p15
def g15p20 : Pt := nav [2, 0, 0] g15p16
def g15p21 : Pt := nav [0, 0] g15p17
def g15p22 : Pt := nav [1, 0] g15p18
def g15p23 : Pt := nav [2, 0] g15p18
def g15p25 : Pt := nav [2, 0, 0] g15p21
def g15p26 : Pt := nav [0, 0] g15p23
def g15p27 : Pt := nav [1, 0] g15p26
def g15p28 : Pt := nav [2, 0] g15p26
def g15p29 : Pt := nav [0, 0, 0] g15p27
def g15p30 : Pt := nav [0, 0] g15p28
def g15p31 : Pt := nav [0, 0] g15p29
def g15p32 : Pt := nav [1] g15p30
def g15p33 : Pt := nav [2, 0] g15p30
def g15p35 : Pt := nav [0, 0] g15p33
def g15p36 : Pt := nav [1] g15p35
def g15p37 : Pt := nav [2, 0] g15p35
def g15p38 : Pt := nav [0, 0] g15p37
def g15p39 : Pt := nav [1] g15p38
def g15p40 : Pt := nav [2, 0] g15p38
def g15p41 : Pt := nav [0, 0] g15p40
def g15p42 : Pt := nav [1, 0] g15p41
def g15p43 : Pt := nav [2] g15p41
def g15p44 : Pt := nav [0, 0, 0, 0] g15p42
def g15p45 : Pt := nav [0, 0] g15p44
def g15p47 : Pt := nav [2, 0, 0] g15p45
def g15p48 : Pt := nav [0, 0] g15p47
def g15p49 : Pt := nav [1] g15p48
def g15_l18 (k : Nat)  (a0 : (List Nat)) (a1 : Int) (n : Nat) : Int → Option (S28 × Int) :=
 Nat.rec (motive := fun _ => Int → Option (S28 × Int)) (fun _ => none) (fun _ ih => fun (y18_0 : Int) => jn (fun (z24 : Bool × Int) => if z24.1 then (ih (fwrap .i64 (z24.2 + 1))) else ((subL a0 (some a1) (some z24.2)).bind fun x16_3 => (g21 k x16_3).bind fun x16_4 => some ((⟨(11 : Int), x16_4, a1⟩ : S28), (0 : Int)))) (fun j24 => if (decide (y18_0 < (a0.length : Int))) then ((nthS a0 y18_0).bind fun x15_7 => j24 (!decide (x15_7 = 10), y18_0)) else (j24 (false, y18_0)))) n
theorem g15_l18_s (k : Nat)  (a0 : (List Nat)) (a1 : Int) (n : Nat) (y18_0 : Int) : g15_l18 k a0 a1 (n + 1) y18_0 = (jn (fun (z24 : Bool × Int) => if z24.1 then ((g15_l18 k a0 a1 n) (fwrap .i64 (z24.2 + 1))) else ((subL a0 (some a1) (some z24.2)).bind fun x16_3 => (g21 k x16_3).bind fun x16_4 => some ((⟨(11 : Int), x16_4, a1⟩ : S28), (0 : Int)))) (fun j24 => if (decide (y18_0 < (a0.length : Int))) then ((nthS a0 y18_0).bind fun x15_7 => j24 (!decide (x15_7 = 10), y18_0)) else (j24 (false, y18_0)))) := rfl
theorem g15_l18_ok (k : Nat)  (a0 : (List Nat)) (a1 : Int)  : ∀ (n : Nat) (y18_0 : Int), Ok X15 g15p11 [(0, .str a0), (1, .int .i64 a1), (4, .ptr 0 3 0), (9, .int .i64 y18_0)] (mkH [⟨[.int .i64 0, .str [], .int .i64 0], 0, false⟩]) (g15_l18 k a0 a1 n y18_0)
 | 0, _ => ok_none
 | n + 1, y18_0 => by
  have ih := g15_l18_ok k a0 a1 n
  rw [g15_l18_s]
  refine ok_ent (p' := nav [0] g15p11) (by kernel_rfl) ?_
  let E6 : Env := [(34, .bool (decide (y18_0 < (a0.length : Int)))), (33, .bool (decide (y18_0 < (a0.length : Int)))), (32, .int .i64 (a0.length : Int)), (31, .str a0), (30, .int .i64 y18_0), (0, .str a0), (1, .int .i64 a1), (4, .ptr 0 3 0), (9, .int .i64 y18_0)]
  refine ok_run 8 (p' := (atN 5 (ctl1 g15p13))) (env' := E6) (H' := (mkH [⟨[.int .i64 0, .str [], .int .i64 0], 0, false⟩])) (by kernel_rfl) ?_
  refine ok_jn (f := fun (z24 : Bool × Int) => if z24.1 then ((g15_l18 k a0 a1 n) (fwrap .i64 (z24.2 + 1))) else ((subL a0 (some a1) (some z24.2)).bind fun x16_3 => (g21 k x16_3).bind fun x16_4 => some ((⟨(11 : Int), x16_4, a1⟩ : S28), (0 : Int)))) g15p16 (fun (z24 : Bool × Int) => [(0, .str a0), (1, .int .i64 a1), (4, .ptr 0 3 0), (9, .int .i64 z24.2), (39, .bool z24.1)]) (fun (z24 : Bool × Int) => (mkH [⟨[.int .i64 0, .str [], .int .i64 0], 0, false⟩])) (fun z24 => ?_) (fun j24 hj24 => ?_)
  ·refine ok_split 39 (b := z24.1) (by kernel_rfl) (fun hb => ?_) (fun hb => ?_)
   ·let E7 : Env := [(9, .int .i64 (fwrap .i64 (z24.2 + 1))), (41, .int .i64 (fwrap .i64 (z24.2 + 1))), (40, .int .i64 z24.2), (39, .bool true), (0, .str a0), (1, .int .i64 a1), (4, .ptr 0 3 0), (9, .int .i64 z24.2), (39, .bool z24.1)]
    refine ok_run 8 (p' := g15p11) (env' := E7) (H' := (mkH [⟨[.int .i64 0, .str [], .int .i64 0], 0, false⟩])) (by kernel_rfl) ?_
    refine ok_keep [0, 1, 4, 9] (env' := [(0, .str a0), (1, .int .i64 a1), (4, .ptr 0 3 0), (9, .int .i64 (fwrap .i64 (z24.2 + 1)))]) (by kernel_rfl) ?_
    exact ih (fwrap .i64 (z24.2 + 1))
   ·let E8 : Env := [(44, .int .i64 z24.2), (43, .int .i64 a1), (42, .str a0), (39, .bool false), (0, .str a0), (1, .int .i64 a1), (4, .ptr 0 3 0), (9, .int .i64 z24.2), (39, .bool z24.1)]
    refine ok_run 7 (p' := (atN 3 (ctl1 g15p20))) (env' := E8) (H' := (mkH [⟨[.int .i64 0, .str [], .int .i64 0], 0, false⟩])) (by kernel_rfl) ?_
    refine ok_chk (fun (x16_3 : (List Nat)) => (.str x16_3, (mkH [⟨[.int .i64 0, .str [], .int .i64 0], 0, false⟩]))) (atN 4 (ctl1 g15p20)) (fun x16_3 => ((45, .str x16_3) :: E8)) (subH (some a1) (some z24.2) (by kernel_rfl)) (fun _ => by kernel_rfl) (fun x16_3 hx16_3 => ?_)
    refine ok_call (fun (x16_4 : (List Nat)) => .str x16_4) (atN 5 (ctl1 g15p20)) (fun x16_4 => ((46, .str x16_4) :: (45, .str x16_3) :: E8)) (fi := 21) (args := [.str x16_3]) (by kernel_rfl) (by kernel_rfl) (fun _ => by kernel_rfl) (fun r h => g21_ok k x16_3 r h) (fun _ => by kernel_rfl) (fun x16_4 hx16_4 => ?_)
    let E9 : Env := ((5, .int .i64 0) :: (48, .agg [.int .i64 11, .str x16_4, .int .i64 a1]) :: (47, .int .i64 a1) :: (46, .str x16_4) :: (45, .str x16_3) :: E8)
    refine ok_run 6 (p' := .fin) (env' := E9) (H' := (mkH [⟨[.int .i64 11, .str x16_4, .int .i64 a1], 3, false⟩])) (by kernel_rfl) ?_
    exact ok_ret (r := ((⟨(11 : Int), x16_4, a1⟩ : S28), (0 : Int))) (xs := [.agg [.int .i64 11, .str x16_4, .int .i64 a1], .int .i64 0]) (v := .tuple [.agg [.int .i64 11, .str x16_4, .int .i64 a1], .int .i64 0]) (by kernel_rfl) (by kernel_rfl) (by kernel_rfl) (.pures (by kernel_rfl)) (by kernel_rfl)
  ·refine ok_split 34 (b := decide (y18_0 < (a0.length : Int))) (by kernel_rfl) (fun hb => ?_) (fun hb => ?_)
   ·refine ok_run 2 (p' := (atN 7 (ctl1 g15p13))) (env' := ((36, .int .i64 y18_0) :: (35, .str a0) :: (34, .bool true) :: E6)) (H' := (mkH [⟨[.int .i64 0, .str [], .int .i64 0], 0, false⟩])) (by kernel_rfl) ?_
    refine ok_chk (fun (x15_7 : Int) => (.int .u8 x15_7, (mkH [⟨[.int .i64 0, .str [], .int .i64 0], 0, false⟩]))) (atN 8 (ctl1 g15p13)) (fun x15_7 => ((37, .int .u8 x15_7) :: (36, .int .i64 y18_0) :: (35, .str a0) :: (34, .bool true) :: E6)) (idxH (by kernel_rfl)) (fun _ => by kernel_rfl) (fun x15_7 hx15_7 => ?_)
    let E10 : Env := ((39, .bool (!decide (x15_7 = 10))) :: (38, .bool (!decide (x15_7 = 10))) :: (37, .int .u8 x15_7) :: (36, .int .i64 y18_0) :: (35, .str a0) :: (34, .bool true) :: E6)
    refine ok_run 3 (p' := g15p16) (env' := E10) (H' := (mkH [⟨[.int .i64 0, .str [], .int .i64 0], 0, false⟩])) (by kernel_rfl) ?_
    refine ok_keep [0, 1, 4, 9, 39] (env' := [(0, .str a0), (1, .int .i64 a1), (4, .ptr 0 3 0), (9, .int .i64 y18_0), (39, .bool (!decide (x15_7 = 10)))]) (by kernel_rfl) ?_
    exact hj24 (!decide (x15_7 = 10), y18_0)
   ·let E11 : Env := ((39, .bool false) :: (38, .tuple []) :: (37, .tuple []) :: (36, .tuple []) :: (35, .tuple []) :: (34, .bool false) :: E6)
    refine ok_run 6 (p' := g15p16) (env' := E11) (H' := (mkH [⟨[.int .i64 0, .str [], .int .i64 0], 0, false⟩])) (by kernel_rfl) ?_
    refine ok_keep [0, 1, 4, 9, 39] (env' := [(0, .str a0), (1, .int .i64 a1), (4, .ptr 0 3 0), (9, .int .i64 y18_0), (39, .bool false)]) (by kernel_rfl) ?_
    exact hj24 (false, y18_0)
def g15 (k : Nat) (a0 : (List Nat)) (a1 : Int) : Option (S28 × Int) :=
 jn (fun (z17 : Bool) => if z17 then (some ((⟨(0 : Int), ([] : List Nat), (0 : Int)⟩ : S28), (4 : Int))) else ((nthS a0 a1).bind fun x0_2 => if (decide (x0_2 = 37)) then (g15_l18 k a0 a1 k a1) else (jn (fun (z19 : Bool) => jn (fun (z20 : Int × Int) => if (decide (z20.2 = 0)) then (some ((⟨(0 : Int), ([] : List Nat), (0 : Int)⟩ : S28), (4 : Int))) else ((subL a0 (some a1) (some (fwrap .i64 (a1 + z20.2)))).bind fun x14_6 => some ((⟨z20.1, x14_6, a1⟩ : S28), (0 : Int)))) (fun j20 => if z19 then (j20 (10, 1)) else ((g22 k x0_2).bind fun x2_1 => if (decide (x2_1 = 3)) then ((g23 k a0 a1).bind fun x3_2 => some ((⟨x3_2.1.f0, x3_2.1.f1, x3_2.1.f2⟩ : S28), x3_2.2)) else ((g22 k x0_2).bind fun x4_1 => if (decide (0 < x4_1)) then ((g22 k x0_2).bind fun x5_1 => (g24 k a0 a1).bind fun x5_4 => (subL a0 (some a1) (some (fwrap .i64 (a1 + fwrap .i64 (x5_4 - a1))))).bind fun x6_5 => (g25 k x6_5).bind fun x6_6 => if x6_6 then (j20 (8, fwrap .i64 (x5_4 - a1))) else (j20 (x5_1, fwrap .i64 (x5_4 - a1)))) else (if (decide (x0_2 = 39)) then ((g26 k a0 a1).bind fun x7_2 => j20 (1, x7_2)) else (if (decide (x0_2 = 34)) then ((g26 k a0 a1).bind fun x8_2 => j20 (6, x8_2)) else (if (decide (x0_2 = 36)) then ((g27 k a0 a1).bind fun x9_2 => j20 (5, x9_2)) else (if (decide (x0_2 = 63)) then (jn (fun (z21 : Bool) => jn (fun (z22 : Int) => jn (fun (z23 : Bool) => if z23 then ((g24 k a0 z22).bind fun x13_2 => j20 (7, fwrap .i64 (x13_2 - a1))) else (j20 (0, 0))) (fun j23 => if (decide (z22 < (a0.length : Int))) then ((nthS a0 z22).bind fun x12_7 => (g28 k x12_7).bind fun x12_8 => if x12_8 then (j23 true) else ((nthS a0 z22).bind fun x12_12 => j23 (decide (x12_12 = 95)))) else (j23 false))) (fun j22 => if z21 then (j22 (fwrap .i64 (fwrap .i64 (a1 + 1) + 1))) else (j22 (fwrap .i64 (a1 + 1))))) (fun j21 => if (decide (fwrap .i64 (a1 + 1) < (a0.length : Int))) then ((nthS a0 (fwrap .i64 (a1 + 1))).bind fun x10_7 => j21 (decide (x10_7 = 63))) else (j21 false))) else ((g29 k a0 a1).bind fun x11_2 => j20 (9, x11_2)))))))))) (fun j19 => if (decide (x0_2 = 46)) then (if (decide (fwrap .i64 (a1 + 1) = (a0.length : Int))) then (j19 true) else ((nthS a0 (fwrap .i64 (a1 + 1))).bind fun x1_12 => if (decide (x1_12 = 37)) then (j19 true) else ((g17 k a0 (fwrap .i64 (a1 + 1))).bind fun x1_19 => j19 (decide (fwrap .i64 (a1 + 1) < x1_19))))) else (j19 false))))) (fun j17 => if (decide (a1 < 0)) then (j17 true) else (j17 (decide ((a0.length : Int) ≤ a1))))
theorem g15_ok (k : Nat) (a0 : (List Nat)) (a1 : Int) (r : (S28 × Int)) (h : g15 k a0 a1 = some r) : PureOk Try.prog 15 [.str a0, .int .i64 a1] (.tuple [.agg [.int .i64 r.1.f0, .str r.1.f1, .int .i64 r.1.f2], .int .i64 r.2]) := by
 refine pure_of X15 (fun _ => rfl) Try.func15 (by decide +kernel) (by kernel_rfl) (t := g15 k a0 a1) ?_ h
 unfold g15
 refine ok_env (env' := [(0, .str a0), (1, .int .i64 a1)]) (by kernel_rfl) ?_
 let E1 : Env := [(13, .bool (decide (a1 < 0))), (12, .bool (decide (a1 < 0))), (11, .int .i64 a1), (5, .int .i64 0), (4, .ptr 0 3 0), (0, .str a0), (1, .int .i64 a1)]
 refine ok_run 11 (p' := (atN 3 (ctl1 g15p1))) (env' := E1) (H' := (mkH [⟨[.int .i64 0, .str [], .int .i64 0], 0, false⟩])) (by kernel_rfl) ?_
 refine ok_jn (f := fun (z17 : Bool) => if z17 then (some ((⟨(0 : Int), ([] : List Nat), (0 : Int)⟩ : S28), (4 : Int))) else ((nthS a0 a1).bind fun x0_2 => if (decide (x0_2 = 37)) then (g15_l18 k a0 a1 k a1) else (jn (fun (z19 : Bool) => jn (fun (z20 : Int × Int) => if (decide (z20.2 = 0)) then (some ((⟨(0 : Int), ([] : List Nat), (0 : Int)⟩ : S28), (4 : Int))) else ((subL a0 (some a1) (some (fwrap .i64 (a1 + z20.2)))).bind fun x14_6 => some ((⟨z20.1, x14_6, a1⟩ : S28), (0 : Int)))) (fun j20 => if z19 then (j20 (10, 1)) else ((g22 k x0_2).bind fun x2_1 => if (decide (x2_1 = 3)) then ((g23 k a0 a1).bind fun x3_2 => some ((⟨x3_2.1.f0, x3_2.1.f1, x3_2.1.f2⟩ : S28), x3_2.2)) else ((g22 k x0_2).bind fun x4_1 => if (decide (0 < x4_1)) then ((g22 k x0_2).bind fun x5_1 => (g24 k a0 a1).bind fun x5_4 => (subL a0 (some a1) (some (fwrap .i64 (a1 + fwrap .i64 (x5_4 - a1))))).bind fun x6_5 => (g25 k x6_5).bind fun x6_6 => if x6_6 then (j20 (8, fwrap .i64 (x5_4 - a1))) else (j20 (x5_1, fwrap .i64 (x5_4 - a1)))) else (if (decide (x0_2 = 39)) then ((g26 k a0 a1).bind fun x7_2 => j20 (1, x7_2)) else (if (decide (x0_2 = 34)) then ((g26 k a0 a1).bind fun x8_2 => j20 (6, x8_2)) else (if (decide (x0_2 = 36)) then ((g27 k a0 a1).bind fun x9_2 => j20 (5, x9_2)) else (if (decide (x0_2 = 63)) then (jn (fun (z21 : Bool) => jn (fun (z22 : Int) => jn (fun (z23 : Bool) => if z23 then ((g24 k a0 z22).bind fun x13_2 => j20 (7, fwrap .i64 (x13_2 - a1))) else (j20 (0, 0))) (fun j23 => if (decide (z22 < (a0.length : Int))) then ((nthS a0 z22).bind fun x12_7 => (g28 k x12_7).bind fun x12_8 => if x12_8 then (j23 true) else ((nthS a0 z22).bind fun x12_12 => j23 (decide (x12_12 = 95)))) else (j23 false))) (fun j22 => if z21 then (j22 (fwrap .i64 (fwrap .i64 (a1 + 1) + 1))) else (j22 (fwrap .i64 (a1 + 1))))) (fun j21 => if (decide (fwrap .i64 (a1 + 1) < (a0.length : Int))) then ((nthS a0 (fwrap .i64 (a1 + 1))).bind fun x10_7 => j21 (decide (x10_7 = 63))) else (j21 false))) else ((g29 k a0 a1).bind fun x11_2 => j20 (9, x11_2)))))))))) (fun j19 => if (decide (x0_2 = 46)) then (if (decide (fwrap .i64 (a1 + 1) = (a0.length : Int))) then (j19 true) else ((nthS a0 (fwrap .i64 (a1 + 1))).bind fun x1_12 => if (decide (x1_12 = 37)) then (j19 true) else ((g17 k a0 (fwrap .i64 (a1 + 1))).bind fun x1_19 => j19 (decide (fwrap .i64 (a1 + 1) < x1_19))))) else (j19 false))))) g15p2 (fun (z17 : Bool) => [(0, .str a0), (1, .int .i64 a1), (4, .ptr 0 3 0), (18, .bool z17)]) (fun (z17 : Bool) => (mkH [⟨[.int .i64 0, .str [], .int .i64 0], 0, false⟩])) (fun z17 => ?_) (fun j17 hj17 => ?_)
 ·refine ok_split 18 (b := z17) (by kernel_rfl) (fun hb => ?_) (fun hb => ?_)
  ·let E2 : Env := [(5, .int .i64 4), (19, .agg [.int .i64 0, .str [], .int .i64 0]), (18, .bool true), (0, .str a0), (1, .int .i64 a1), (4, .ptr 0 3 0), (18, .bool z17)]
   refine ok_run 8 (p' := .fin) (env' := E2) (H' := (mkH [⟨[.int .i64 0, .str [], .int .i64 0], 3, false⟩])) (by kernel_rfl) ?_
   exact ok_ret (r := ((⟨(0 : Int), ([] : List Nat), (0 : Int)⟩ : S28), (4 : Int))) (xs := [.agg [.int .i64 0, .str [], .int .i64 0], .int .i64 4]) (v := .tuple [.agg [.int .i64 0, .str [], .int .i64 0], .int .i64 4]) (by kernel_rfl) (by kernel_rfl) (by kernel_rfl) (.pures (by kernel_rfl)) (by kernel_rfl)
  ·let E3 : Env := [(21, .int .i64 a1), (20, .str a0), (18, .bool false), (0, .str a0), (1, .int .i64 a1), (4, .ptr 0 3 0), (18, .bool z17)]
   refine ok_run 6 (p' := (atN 2 (ctl1 g15p4))) (env' := E3) (H' := (mkH [⟨[.int .i64 0, .str [], .int .i64 0], 0, false⟩])) (by kernel_rfl) ?_
   refine ok_chk (fun (x0_2 : Int) => (.int .u8 x0_2, (mkH [⟨[.int .i64 0, .str [], .int .i64 0], 0, false⟩]))) (atN 3 (ctl1 g15p4)) (fun x0_2 => ((22, .int .u8 x0_2) :: E3)) (idxH (by kernel_rfl)) (fun _ => by kernel_rfl) (fun x0_2 hx0_2 => ?_)
   let E4 : Env := ((26, .bool (decide (x0_2 = 37))) :: (28, .bool (decide (x0_2 = 37))) :: (27, .int .u8 x0_2) :: (8, .int .i64 0) :: (7, .int .i64 0) :: (6, .int .u8 x0_2) :: (22, .int .u8 x0_2) :: E3)
   refine ok_run 15 (p' := g15p8) (env' := E4) (H' := (mkH [⟨[.int .i64 0, .str [], .int .i64 0], 0, false⟩])) (by kernel_rfl) ?_
   refine ok_keep [0, 1, 4, 6, 7, 8, 26] (env' := [(0, .str a0), (1, .int .i64 a1), (4, .ptr 0 3 0), (6, .int .u8 x0_2), (7, .int .i64 0), (8, .int .i64 0), (26, .bool (decide (x0_2 = 37)))]) (by kernel_rfl) ?_
   refine ok_split 26 (b := decide (x0_2 = 37)) (by kernel_rfl) (fun hb => ?_) (fun hb => ?_)
   ·let E5 : Env := [(9, .int .i64 a1), (29, .int .i64 a1), (26, .bool true), (0, .str a0), (1, .int .i64 a1), (4, .ptr 0 3 0), (6, .int .u8 x0_2), (7, .int .i64 0), (8, .int .i64 0), (26, .bool (decide (x0_2 = 37)))]
    refine ok_run 9 (p' := g15p11) (env' := E5) (H' := (mkH [⟨[.int .i64 0, .str [], .int .i64 0], 0, false⟩])) (by kernel_rfl) ?_
    refine ok_keep [0, 1, 4, 9] (env' := [(0, .str a0), (1, .int .i64 a1), (4, .ptr 0 3 0), (9, .int .i64 a1)]) (by kernel_rfl) ?_
    exact (g15_l18_ok k a0 a1 k) a1
   ·let E12 : Env := [(52, .bool (decide (x0_2 = 46))), (51, .bool (decide (x0_2 = 46))), (50, .int .u8 x0_2), (26, .bool false), (0, .str a0), (1, .int .i64 a1), (4, .ptr 0 3 0), (6, .int .u8 x0_2), (7, .int .i64 0), (8, .int .i64 0), (26, .bool (decide (x0_2 = 37)))]
    refine ok_run 6 (p' := (atN 3 (ctl1 g15p10))) (env' := E12) (H' := (mkH [⟨[.int .i64 0, .str [], .int .i64 0], 0, false⟩])) (by kernel_rfl) ?_
    refine ok_jn (f := fun (z19 : Bool) => jn (fun (z20 : Int × Int) => if (decide (z20.2 = 0)) then (some ((⟨(0 : Int), ([] : List Nat), (0 : Int)⟩ : S28), (4 : Int))) else ((subL a0 (some a1) (some (fwrap .i64 (a1 + z20.2)))).bind fun x14_6 => some ((⟨z20.1, x14_6, a1⟩ : S28), (0 : Int)))) (fun j20 => if z19 then (j20 (10, 1)) else ((g22 k x0_2).bind fun x2_1 => if (decide (x2_1 = 3)) then ((g23 k a0 a1).bind fun x3_2 => some ((⟨x3_2.1.f0, x3_2.1.f1, x3_2.1.f2⟩ : S28), x3_2.2)) else ((g22 k x0_2).bind fun x4_1 => if (decide (0 < x4_1)) then ((g22 k x0_2).bind fun x5_1 => (g24 k a0 a1).bind fun x5_4 => (subL a0 (some a1) (some (fwrap .i64 (a1 + fwrap .i64 (x5_4 - a1))))).bind fun x6_5 => (g25 k x6_5).bind fun x6_6 => if x6_6 then (j20 (8, fwrap .i64 (x5_4 - a1))) else (j20 (x5_1, fwrap .i64 (x5_4 - a1)))) else (if (decide (x0_2 = 39)) then ((g26 k a0 a1).bind fun x7_2 => j20 (1, x7_2)) else (if (decide (x0_2 = 34)) then ((g26 k a0 a1).bind fun x8_2 => j20 (6, x8_2)) else (if (decide (x0_2 = 36)) then ((g27 k a0 a1).bind fun x9_2 => j20 (5, x9_2)) else (if (decide (x0_2 = 63)) then (jn (fun (z21 : Bool) => jn (fun (z22 : Int) => jn (fun (z23 : Bool) => if z23 then ((g24 k a0 z22).bind fun x13_2 => j20 (7, fwrap .i64 (x13_2 - a1))) else (j20 (0, 0))) (fun j23 => if (decide (z22 < (a0.length : Int))) then ((nthS a0 z22).bind fun x12_7 => (g28 k x12_7).bind fun x12_8 => if x12_8 then (j23 true) else ((nthS a0 z22).bind fun x12_12 => j23 (decide (x12_12 = 95)))) else (j23 false))) (fun j22 => if z21 then (j22 (fwrap .i64 (fwrap .i64 (a1 + 1) + 1))) else (j22 (fwrap .i64 (a1 + 1))))) (fun j21 => if (decide (fwrap .i64 (a1 + 1) < (a0.length : Int))) then ((nthS a0 (fwrap .i64 (a1 + 1))).bind fun x10_7 => j21 (decide (x10_7 = 63))) else (j21 false))) else ((g29 k a0 a1).bind fun x11_2 => j20 (9, x11_2)))))))))) g15p12 (fun (z19 : Bool) => [(0, .str a0), (1, .int .i64 a1), (4, .ptr 0 3 0), (6, .int .u8 x0_2), (7, .int .i64 0), (8, .int .i64 0), (49, .bool z19)]) (fun (z19 : Bool) => (mkH [⟨[.int .i64 0, .str [], .int .i64 0], 0, false⟩])) (fun z19 => ?_) (fun j19 hj19 => ?_)
    ·refine ok_jn (f := fun (z20 : Int × Int) => if (decide (z20.2 = 0)) then (some ((⟨(0 : Int), ([] : List Nat), (0 : Int)⟩ : S28), (4 : Int))) else ((subL a0 (some a1) (some (fwrap .i64 (a1 + z20.2)))).bind fun x14_6 => some ((⟨z20.1, x14_6, a1⟩ : S28), (0 : Int)))) g15p17 (fun (z20 : Int × Int) => [(0, .str a0), (1, .int .i64 a1), (4, .ptr 0 3 0), (7, .int .i64 z20.1), (8, .int .i64 z20.2)]) (fun (z20 : Int × Int) => (mkH [⟨[.int .i64 0, .str [], .int .i64 0], 0, false⟩])) (fun z20 => ?_) (fun j20 hj20 => ?_)
     ·let E13 : Env := [(159, .bool (decide (z20.2 = 0))), (158, .int .i64 z20.2), (0, .str a0), (1, .int .i64 a1), (4, .ptr 0 3 0), (7, .int .i64 z20.1), (8, .int .i64 z20.2)]
      refine ok_run 4 (p' := g15p21) (env' := E13) (H' := (mkH [⟨[.int .i64 0, .str [], .int .i64 0], 0, false⟩])) (by kernel_rfl) ?_
      refine ok_split 159 (b := decide (z20.2 = 0)) (by kernel_rfl) (fun hb => ?_) (fun hb => ?_)
      ·refine ok_run 8 (p' := .fin) (env' := ((5, .int .i64 4) :: (160, .agg [.int .i64 0, .str [], .int .i64 0]) :: (159, .bool true) :: E13)) (H' := (mkH [⟨[.int .i64 0, .str [], .int .i64 0], 3, false⟩])) (by kernel_rfl) ?_
       exact ok_ret (r := ((⟨(0 : Int), ([] : List Nat), (0 : Int)⟩ : S28), (4 : Int))) (xs := [.agg [.int .i64 0, .str [], .int .i64 0], .int .i64 4]) (v := .tuple [.agg [.int .i64 0, .str [], .int .i64 0], .int .i64 4]) (by kernel_rfl) (by kernel_rfl) (by kernel_rfl) (.pures (by kernel_rfl)) (by kernel_rfl)
      ·let E14 : Env := ((166, .int .i64 (fwrap .i64 (a1 + z20.2))) :: (165, .int .i64 z20.2) :: (164, .int .i64 a1) :: (163, .int .i64 a1) :: (162, .str a0) :: (161, .int .i64 z20.1) :: (159, .bool false) :: E13)
       refine ok_run 10 (p' := (atN 6 (ctl1 g15p25))) (env' := E14) (H' := (mkH [⟨[.int .i64 0, .str [], .int .i64 0], 0, false⟩])) (by kernel_rfl) ?_
       refine ok_chk (fun (x14_6 : (List Nat)) => (.str x14_6, (mkH [⟨[.int .i64 0, .str [], .int .i64 0], 0, false⟩]))) (atN 7 (ctl1 g15p25)) (fun x14_6 => ((167, .str x14_6) :: E14)) (subH (some a1) (some (fwrap .i64 (a1 + z20.2))) (by kernel_rfl)) (fun _ => by kernel_rfl) (fun x14_6 hx14_6 => ?_)
       refine ok_run 6 (p' := .fin) (env' := ((5, .int .i64 0) :: (169, .agg [.int .i64 z20.1, .str x14_6, .int .i64 a1]) :: (168, .int .i64 a1) :: (167, .str x14_6) :: E14)) (H' := (mkH [⟨[.int .i64 z20.1, .str x14_6, .int .i64 a1], 3, false⟩])) (by kernel_rfl) ?_
       exact ok_ret (r := ((⟨z20.1, x14_6, a1⟩ : S28), (0 : Int))) (xs := [.agg [.int .i64 z20.1, .str x14_6, .int .i64 a1], .int .i64 0]) (v := .tuple [.agg [.int .i64 z20.1, .str x14_6, .int .i64 a1], .int .i64 0]) (by kernel_rfl) (by kernel_rfl) (by kernel_rfl) (.pures (by kernel_rfl)) (by kernel_rfl)
     ·refine ok_split 49 (b := z19) (by kernel_rfl) (fun hb => ?_) (fun hb => ?_)
      ·let E15 : Env := [(8, .int .i64 1), (7, .int .i64 10), (49, .bool true), (0, .str a0), (1, .int .i64 a1), (4, .ptr 0 3 0), (6, .int .u8 x0_2), (7, .int .i64 0), (8, .int .i64 0), (49, .bool z19)]
       refine ok_run 7 (p' := g15p17) (env' := E15) (H' := (mkH [⟨[.int .i64 0, .str [], .int .i64 0], 0, false⟩])) (by kernel_rfl) ?_
       refine ok_keep [0, 1, 4, 7, 8] (env' := [(0, .str a0), (1, .int .i64 a1), (4, .ptr 0 3 0), (7, .int .i64 10), (8, .int .i64 1)]) (by kernel_rfl) ?_
       exact hj20 (10, 1)
      ·let E16 : Env := [(76, .int .u8 x0_2), (49, .bool false), (0, .str a0), (1, .int .i64 a1), (4, .ptr 0 3 0), (6, .int .u8 x0_2), (7, .int .i64 0), (8, .int .i64 0), (49, .bool z19)]
       refine ok_run 4 (p' := (atN 1 (ctl1 g15p15))) (env' := E16) (H' := (mkH [⟨[.int .i64 0, .str [], .int .i64 0], 0, false⟩])) (by kernel_rfl) ?_
       refine ok_call (fun (x2_1 : Int) => .int .i64 x2_1) (atN 2 (ctl1 g15p15)) (fun x2_1 => ((77, .int .i64 x2_1) :: E16)) (fi := 22) (args := [.int .u8 x0_2]) (by kernel_rfl) (by kernel_rfl) (fun _ => by kernel_rfl) (fun r h => g22_ok k x0_2 r h) (fun _ => by kernel_rfl) (fun x2_1 hx2_1 => ?_)
       refine ok_run 3 (p' := g15p18) (env' := ((75, .bool (decide (x2_1 = 3))) :: (78, .bool (decide (x2_1 = 3))) :: (77, .int .i64 x2_1) :: E16)) (H' := (mkH [⟨[.int .i64 0, .str [], .int .i64 0], 0, false⟩])) (by kernel_rfl) ?_
       refine ok_split 75 (b := decide (x2_1 = 3)) (by kernel_rfl) (fun hb => ?_) (fun hb => ?_)
       ·let E17 : Env := ((80, .int .i64 a1) :: (79, .str a0) :: (75, .bool true) :: (75, .bool (decide (x2_1 = 3))) :: (78, .bool (decide (x2_1 = 3))) :: (77, .int .i64 x2_1) :: E16)
        refine ok_run 5 (p' := (atN 2 (ctl1 g15p22))) (env' := E17) (H' := (mkH [⟨[.int .i64 0, .str [], .int .i64 0], 0, false⟩])) (by kernel_rfl) ?_
        refine ok_call (fun (x3_2 : (S28 × Int)) => .tuple [.agg [.int .i64 x3_2.1.f0, .str x3_2.1.f1, .int .i64 x3_2.1.f2], .int .i64 x3_2.2]) (atN 3 (ctl1 g15p22)) (fun x3_2 => ((81, .tuple [.agg [.int .i64 x3_2.1.f0, .str x3_2.1.f1, .int .i64 x3_2.1.f2], .int .i64 x3_2.2]) :: E17)) (fi := 23) (args := [.str a0, .int .i64 a1]) (by kernel_rfl) (by kernel_rfl) (fun _ => by kernel_rfl) (fun r h => g23_ok k a0 a1 r h) (fun _ => by kernel_rfl) (fun x3_2 hx3_2 => ?_)
        refine ok_run 6 (p' := .fin) (env' := ((5, .int .i64 x3_2.2) :: (83, .int .i64 x3_2.2) :: (82, .agg [.int .i64 x3_2.1.f0, .str x3_2.1.f1, .int .i64 x3_2.1.f2]) :: (81, .tuple [.agg [.int .i64 x3_2.1.f0, .str x3_2.1.f1, .int .i64 x3_2.1.f2], .int .i64 x3_2.2]) :: E17)) (H' := (mkH [⟨[.int .i64 x3_2.1.f0, .str x3_2.1.f1, .int .i64 x3_2.1.f2], 3, false⟩])) (by kernel_rfl) ?_
        exact ok_ret (r := ((⟨x3_2.1.f0, x3_2.1.f1, x3_2.1.f2⟩ : S28), x3_2.2)) (xs := [.agg [.int .i64 x3_2.1.f0, .str x3_2.1.f1, .int .i64 x3_2.1.f2], .int .i64 x3_2.2]) (v := .tuple [.agg [.int .i64 x3_2.1.f0, .str x3_2.1.f1, .int .i64 x3_2.1.f2], .int .i64 x3_2.2]) (by kernel_rfl) (by kernel_rfl) (by kernel_rfl) (.pures (by kernel_rfl)) (by kernel_rfl)
       ·let E18 : Env := ((85, .int .u8 x0_2) :: (75, .bool false) :: (75, .bool (decide (x2_1 = 3))) :: (78, .bool (decide (x2_1 = 3))) :: (77, .int .i64 x2_1) :: E16)
        refine ok_run 4 (p' := (atN 1 (ctl1 g15p23))) (env' := E18) (H' := (mkH [⟨[.int .i64 0, .str [], .int .i64 0], 0, false⟩])) (by kernel_rfl) ?_
        refine ok_call (fun (x4_1 : Int) => .int .i64 x4_1) (atN 2 (ctl1 g15p23)) (fun x4_1 => ((86, .int .i64 x4_1) :: E18)) (fi := 22) (args := [.int .u8 x0_2]) (by kernel_rfl) (by kernel_rfl) (fun _ => by kernel_rfl) (fun r h => g22_ok k x0_2 r h) (fun _ => by kernel_rfl) (fun x4_1 hx4_1 => ?_)
        refine ok_run 3 (p' := g15p26) (env' := ((84, .bool (decide (0 < x4_1))) :: (87, .bool (decide (0 < x4_1))) :: (86, .int .i64 x4_1) :: E18)) (H' := (mkH [⟨[.int .i64 0, .str [], .int .i64 0], 0, false⟩])) (by kernel_rfl) ?_
        refine ok_keep [0, 1, 4, 6, 7, 8, 84] (env' := [(0, .str a0), (1, .int .i64 a1), (4, .ptr 0 3 0), (6, .int .u8 x0_2), (7, .int .i64 0), (8, .int .i64 0), (84, .bool (decide (0 < x4_1)))]) (by kernel_rfl) ?_
        refine ok_split 84 (b := decide (0 < x4_1)) (by kernel_rfl) (fun hb => ?_) (fun hb => ?_)
        ·let E19 : Env := [(88, .int .u8 x0_2), (84, .bool true), (0, .str a0), (1, .int .i64 a1), (4, .ptr 0 3 0), (6, .int .u8 x0_2), (7, .int .i64 0), (8, .int .i64 0), (84, .bool (decide (0 < x4_1)))]
         refine ok_run 4 (p' := (atN 1 (ctl1 g15p27))) (env' := E19) (H' := (mkH [⟨[.int .i64 0, .str [], .int .i64 0], 0, false⟩])) (by kernel_rfl) ?_
         refine ok_call (fun (x5_1 : Int) => .int .i64 x5_1) (atN 2 (ctl1 g15p27)) (fun x5_1 => ((89, .int .i64 x5_1) :: E19)) (fi := 22) (args := [.int .u8 x0_2]) (by kernel_rfl) (by kernel_rfl) (fun _ => by kernel_rfl) (fun r h => g22_ok k x0_2 r h) (fun _ => by kernel_rfl) (fun x5_1 hx5_1 => ?_)
         refine ok_run 2 (p' := (atN 4 (ctl1 g15p27))) (env' := ((91, .int .i64 a1) :: (90, .str a0) :: (89, .int .i64 x5_1) :: E19)) (H' := (mkH [⟨[.int .i64 0, .str [], .int .i64 0], 0, false⟩])) (by kernel_rfl) ?_
         refine ok_call (fun (x5_4 : Int) => .int .i64 x5_4) (atN 5 (ctl1 g15p27)) (fun x5_4 => ((92, .int .i64 x5_4) :: (91, .int .i64 a1) :: (90, .str a0) :: (89, .int .i64 x5_1) :: E19)) (fi := 24) (args := [.str a0, .int .i64 a1]) (by kernel_rfl) (by kernel_rfl) (fun _ => by kernel_rfl) (fun r h => g24_ok k a0 a1 r h) (fun _ => by kernel_rfl) (fun x5_4 hx5_4 => ?_)
         let E20 : Env := ((8, .int .i64 (fwrap .i64 (x5_4 - a1))) :: (7, .int .i64 x5_1) :: (94, .int .i64 (fwrap .i64 (x5_4 - a1))) :: (93, .int .i64 a1) :: (92, .int .i64 x5_4) :: (91, .int .i64 a1) :: (90, .str a0) :: (89, .int .i64 x5_1) :: E19)
         refine ok_run 6 (p' := g15p29) (env' := E20) (H' := (mkH [⟨[.int .i64 0, .str [], .int .i64 0], 0, false⟩])) (by kernel_rfl) ?_
         refine ok_keep [0, 1, 4, 7, 8] (env' := [(0, .str a0), (1, .int .i64 a1), (4, .ptr 0 3 0), (7, .int .i64 x5_1), (8, .int .i64 (fwrap .i64 (x5_4 - a1)))]) (by kernel_rfl) ?_
         let E21 : Env := [(99, .int .i64 (fwrap .i64 (a1 + fwrap .i64 (x5_4 - a1)))), (98, .int .i64 (fwrap .i64 (x5_4 - a1))), (97, .int .i64 a1), (96, .int .i64 a1), (95, .str a0), (0, .str a0), (1, .int .i64 a1), (4, .ptr 0 3 0), (7, .int .i64 x5_1), (8, .int .i64 (fwrap .i64 (x5_4 - a1)))]
         refine ok_run 6 (p' := (atN 5 (ctl1 g15p29))) (env' := E21) (H' := (mkH [⟨[.int .i64 0, .str [], .int .i64 0], 0, false⟩])) (by kernel_rfl) ?_
         refine ok_chk (fun (x6_5 : (List Nat)) => (.str x6_5, (mkH [⟨[.int .i64 0, .str [], .int .i64 0], 0, false⟩]))) (atN 6 (ctl1 g15p29)) (fun x6_5 => ((100, .str x6_5) :: E21)) (subH (some a1) (some (fwrap .i64 (a1 + fwrap .i64 (x5_4 - a1)))) (by kernel_rfl)) (fun _ => by kernel_rfl) (fun x6_5 hx6_5 => ?_)
         refine ok_call (fun (x6_6 : Bool) => .bool x6_6) (atN 7 (ctl1 g15p29)) (fun x6_6 => ((101, .bool x6_6) :: (100, .str x6_5) :: E21)) (fi := 25) (args := [.str x6_5]) (by kernel_rfl) (by kernel_rfl) (fun _ => by kernel_rfl) (fun r h => g25_ok k x6_5 r h) (fun _ => by kernel_rfl) (fun x6_6 hx6_6 => ?_)
         refine ok_run 1 (p' := g15p31) (env' := ((101, .bool x6_6) :: (100, .str x6_5) :: E21)) (H' := (mkH [⟨[.int .i64 0, .str [], .int .i64 0], 0, false⟩])) (by kernel_rfl) ?_
         refine ok_split 101 (b := x6_6) (by kernel_rfl) (fun hb => ?_) (fun hb => ?_)
         ·refine ok_run 6 (p' := g15p17) (env' := ((7, .int .i64 8) :: (101, .bool true) :: (101, .bool x6_6) :: (100, .str x6_5) :: E21)) (H' := (mkH [⟨[.int .i64 0, .str [], .int .i64 0], 0, false⟩])) (by kernel_rfl) ?_
          refine ok_keep [0, 1, 4, 7, 8] (env' := [(0, .str a0), (1, .int .i64 a1), (4, .ptr 0 3 0), (7, .int .i64 8), (8, .int .i64 (fwrap .i64 (x5_4 - a1)))]) (by kernel_rfl) ?_
          exact hj20 (8, fwrap .i64 (x5_4 - a1))
         ·refine ok_run 4 (p' := g15p17) (env' := ((101, .bool false) :: (101, .bool x6_6) :: (100, .str x6_5) :: E21)) (H' := (mkH [⟨[.int .i64 0, .str [], .int .i64 0], 0, false⟩])) (by kernel_rfl) ?_
          refine ok_keep [0, 1, 4, 7, 8] (env' := [(0, .str a0), (1, .int .i64 a1), (4, .ptr 0 3 0), (7, .int .i64 x5_1), (8, .int .i64 (fwrap .i64 (x5_4 - a1)))]) (by kernel_rfl) ?_
          exact hj20 (x5_1, fwrap .i64 (x5_4 - a1))
        ·let E22 : Env := [(102, .bool (decide (x0_2 = 39))), (104, .bool (decide (x0_2 = 39))), (103, .int .u8 x0_2), (84, .bool false), (0, .str a0), (1, .int .i64 a1), (4, .ptr 0 3 0), (6, .int .u8 x0_2), (7, .int .i64 0), (8, .int .i64 0), (84, .bool (decide (0 < x4_1)))]
         refine ok_run 7 (p' := g15p30) (env' := E22) (H' := (mkH [⟨[.int .i64 0, .str [], .int .i64 0], 0, false⟩])) (by kernel_rfl) ?_
         refine ok_split 102 (b := decide (x0_2 = 39)) (by kernel_rfl) (fun hb => ?_) (fun hb => ?_)
         ·refine ok_run 4 (p' := (atN 2 (ctl1 g15p32))) (env' := ((106, .int .i64 a1) :: (105, .str a0) :: (102, .bool true) :: E22)) (H' := (mkH [⟨[.int .i64 0, .str [], .int .i64 0], 0, false⟩])) (by kernel_rfl) ?_
          refine ok_call (fun (x7_2 : Int) => .int .i64 x7_2) (atN 3 (ctl1 g15p32)) (fun x7_2 => ((107, .int .i64 x7_2) :: (106, .int .i64 a1) :: (105, .str a0) :: (102, .bool true) :: E22)) (fi := 26) (args := [.str a0, .int .i64 a1]) (by kernel_rfl) (by kernel_rfl) (fun _ => by kernel_rfl) (fun r h => g26_ok k a0 a1 r h) (fun _ => by kernel_rfl) (fun x7_2 hx7_2 => ?_)
          let E23 : Env := ((8, .int .i64 x7_2) :: (7, .int .i64 1) :: (107, .int .i64 x7_2) :: (106, .int .i64 a1) :: (105, .str a0) :: (102, .bool true) :: E22)
          refine ok_run 5 (p' := g15p17) (env' := E23) (H' := (mkH [⟨[.int .i64 0, .str [], .int .i64 0], 0, false⟩])) (by kernel_rfl) ?_
          refine ok_keep [0, 1, 4, 7, 8] (env' := [(0, .str a0), (1, .int .i64 a1), (4, .ptr 0 3 0), (7, .int .i64 1), (8, .int .i64 x7_2)]) (by kernel_rfl) ?_
          exact hj20 (1, x7_2)
         ·refine ok_run 7 (p' := g15p35) (env' := ((108, .bool (decide (x0_2 = 34))) :: (110, .bool (decide (x0_2 = 34))) :: (109, .int .u8 x0_2) :: (102, .bool false) :: E22)) (H' := (mkH [⟨[.int .i64 0, .str [], .int .i64 0], 0, false⟩])) (by kernel_rfl) ?_
          refine ok_keep [0, 1, 4, 6, 7, 8, 108] (env' := [(0, .str a0), (1, .int .i64 a1), (4, .ptr 0 3 0), (6, .int .u8 x0_2), (7, .int .i64 0), (8, .int .i64 0), (108, .bool (decide (x0_2 = 34)))]) (by kernel_rfl) ?_
          refine ok_split 108 (b := decide (x0_2 = 34)) (by kernel_rfl) (fun hb => ?_) (fun hb => ?_)
          ·let E24 : Env := [(112, .int .i64 a1), (111, .str a0), (108, .bool true), (0, .str a0), (1, .int .i64 a1), (4, .ptr 0 3 0), (6, .int .u8 x0_2), (7, .int .i64 0), (8, .int .i64 0), (108, .bool (decide (x0_2 = 34)))]
           refine ok_run 4 (p' := (atN 2 (ctl1 g15p36))) (env' := E24) (H' := (mkH [⟨[.int .i64 0, .str [], .int .i64 0], 0, false⟩])) (by kernel_rfl) ?_
           refine ok_call (fun (x8_2 : Int) => .int .i64 x8_2) (atN 3 (ctl1 g15p36)) (fun x8_2 => ((113, .int .i64 x8_2) :: E24)) (fi := 26) (args := [.str a0, .int .i64 a1]) (by kernel_rfl) (by kernel_rfl) (fun _ => by kernel_rfl) (fun r h => g26_ok k a0 a1 r h) (fun _ => by kernel_rfl) (fun x8_2 hx8_2 => ?_)
           refine ok_run 5 (p' := g15p17) (env' := ((8, .int .i64 x8_2) :: (7, .int .i64 6) :: (113, .int .i64 x8_2) :: E24)) (H' := (mkH [⟨[.int .i64 0, .str [], .int .i64 0], 0, false⟩])) (by kernel_rfl) ?_
           refine ok_keep [0, 1, 4, 7, 8] (env' := [(0, .str a0), (1, .int .i64 a1), (4, .ptr 0 3 0), (7, .int .i64 6), (8, .int .i64 x8_2)]) (by kernel_rfl) ?_
           exact hj20 (6, x8_2)
          ·let E25 : Env := [(114, .bool (decide (x0_2 = 36))), (116, .bool (decide (x0_2 = 36))), (115, .int .u8 x0_2), (108, .bool false), (0, .str a0), (1, .int .i64 a1), (4, .ptr 0 3 0), (6, .int .u8 x0_2), (7, .int .i64 0), (8, .int .i64 0), (108, .bool (decide (x0_2 = 34)))]
           refine ok_run 7 (p' := g15p38) (env' := E25) (H' := (mkH [⟨[.int .i64 0, .str [], .int .i64 0], 0, false⟩])) (by kernel_rfl) ?_
           refine ok_split 114 (b := decide (x0_2 = 36)) (by kernel_rfl) (fun hb => ?_) (fun hb => ?_)
           ·refine ok_run 4 (p' := (atN 2 (ctl1 g15p39))) (env' := ((118, .int .i64 a1) :: (117, .str a0) :: (114, .bool true) :: E25)) (H' := (mkH [⟨[.int .i64 0, .str [], .int .i64 0], 0, false⟩])) (by kernel_rfl) ?_
            refine ok_call (fun (x9_2 : Int) => .int .i64 x9_2) (atN 3 (ctl1 g15p39)) (fun x9_2 => ((119, .int .i64 x9_2) :: (118, .int .i64 a1) :: (117, .str a0) :: (114, .bool true) :: E25)) (fi := 27) (args := [.str a0, .int .i64 a1]) (by kernel_rfl) (by kernel_rfl) (fun _ => by kernel_rfl) (fun r h => g27_ok k a0 a1 r h) (fun _ => by kernel_rfl) (fun x9_2 hx9_2 => ?_)
            let E26 : Env := ((8, .int .i64 x9_2) :: (7, .int .i64 5) :: (119, .int .i64 x9_2) :: (118, .int .i64 a1) :: (117, .str a0) :: (114, .bool true) :: E25)
            refine ok_run 5 (p' := g15p17) (env' := E26) (H' := (mkH [⟨[.int .i64 0, .str [], .int .i64 0], 0, false⟩])) (by kernel_rfl) ?_
            refine ok_keep [0, 1, 4, 7, 8] (env' := [(0, .str a0), (1, .int .i64 a1), (4, .ptr 0 3 0), (7, .int .i64 5), (8, .int .i64 x9_2)]) (by kernel_rfl) ?_
            exact hj20 (5, x9_2)
           ·refine ok_run 7 (p' := g15p41) (env' := ((120, .bool (decide (x0_2 = 63))) :: (122, .bool (decide (x0_2 = 63))) :: (121, .int .u8 x0_2) :: (114, .bool false) :: E25)) (H' := (mkH [⟨[.int .i64 0, .str [], .int .i64 0], 0, false⟩])) (by kernel_rfl) ?_
            refine ok_keep [0, 1, 4, 7, 8, 120] (env' := [(0, .str a0), (1, .int .i64 a1), (4, .ptr 0 3 0), (7, .int .i64 0), (8, .int .i64 0), (120, .bool (decide (x0_2 = 63)))]) (by kernel_rfl) ?_
            refine ok_split 120 (b := decide (x0_2 = 63)) (by kernel_rfl) (fun hb => ?_) (fun hb => ?_)
            ·let E27 : Env := [(129, .bool (decide (fwrap .i64 (a1 + 1) < (a0.length : Int)))), (128, .bool (decide (fwrap .i64 (a1 + 1) < (a0.length : Int)))), (127, .int .i64 (a0.length : Int)), (126, .str a0), (125, .int .i64 (fwrap .i64 (a1 + 1))), (10, .int .i64 (fwrap .i64 (a1 + 1))), (124, .int .i64 (fwrap .i64 (a1 + 1))), (123, .int .i64 a1), (120, .bool true), (0, .str a0), (1, .int .i64 a1), (4, .ptr 0 3 0), (7, .int .i64 0), (8, .int .i64 0), (120, .bool (decide (x0_2 = 63)))]
             refine ok_run 15 (p' := (atN 5 (ctl1 g15p44))) (env' := E27) (H' := (mkH [⟨[.int .i64 0, .str [], .int .i64 0], 0, false⟩])) (by kernel_rfl) ?_
             refine ok_jn (f := fun (z21 : Bool) => jn (fun (z22 : Int) => jn (fun (z23 : Bool) => if z23 then ((g24 k a0 z22).bind fun x13_2 => j20 (7, fwrap .i64 (x13_2 - a1))) else (j20 (0, 0))) (fun j23 => if (decide (z22 < (a0.length : Int))) then ((nthS a0 z22).bind fun x12_7 => (g28 k x12_7).bind fun x12_8 => if x12_8 then (j23 true) else ((nthS a0 z22).bind fun x12_12 => j23 (decide (x12_12 = 95)))) else (j23 false))) (fun j22 => if z21 then (j22 (fwrap .i64 (fwrap .i64 (a1 + 1) + 1))) else (j22 (fwrap .i64 (a1 + 1))))) g15p45 (fun (z21 : Bool) => [(0, .str a0), (1, .int .i64 a1), (4, .ptr 0 3 0), (7, .int .i64 0), (8, .int .i64 0), (10, .int .i64 (fwrap .i64 (a1 + 1))), (134, .bool z21)]) (fun (z21 : Bool) => (mkH [⟨[.int .i64 0, .str [], .int .i64 0], 0, false⟩])) (fun z21 => ?_) (fun j21 hj21 => ?_)
             ·refine ok_jn (f := fun (z22 : Int) => jn (fun (z23 : Bool) => if z23 then ((g24 k a0 z22).bind fun x13_2 => j20 (7, fwrap .i64 (x13_2 - a1))) else (j20 (0, 0))) (fun j23 => if (decide (z22 < (a0.length : Int))) then ((nthS a0 z22).bind fun x12_7 => (g28 k x12_7).bind fun x12_8 => if x12_8 then (j23 true) else ((nthS a0 z22).bind fun x12_12 => j23 (decide (x12_12 = 95)))) else (j23 false))) g15p47 (fun (z22 : Int) => [(0, .str a0), (1, .int .i64 a1), (4, .ptr 0 3 0), (7, .int .i64 0), (8, .int .i64 0), (10, .int .i64 z22)]) (fun (z22 : Int) => (mkH [⟨[.int .i64 0, .str [], .int .i64 0], 0, false⟩])) (fun z22 => ?_) (fun j22 hj22 => ?_)
              ·let E28 : Env := [(141, .bool (decide (z22 < (a0.length : Int)))), (140, .bool (decide (z22 < (a0.length : Int)))), (139, .int .i64 (a0.length : Int)), (138, .str a0), (137, .int .i64 z22), (0, .str a0), (1, .int .i64 a1), (4, .ptr 0 3 0), (7, .int .i64 0), (8, .int .i64 0), (10, .int .i64 z22)]
               refine ok_run 6 (p' := (atN 5 (ctl1 g15p47))) (env' := E28) (H' := (mkH [⟨[.int .i64 0, .str [], .int .i64 0], 0, false⟩])) (by kernel_rfl) ?_
               refine ok_jn (f := fun (z23 : Bool) => if z23 then ((g24 k a0 z22).bind fun x13_2 => j20 (7, fwrap .i64 (x13_2 - a1))) else (j20 (0, 0))) g15p48 (fun (z23 : Bool) => [(0, .str a0), (1, .int .i64 a1), (4, .ptr 0 3 0), (7, .int .i64 0), (8, .int .i64 0), (10, .int .i64 z22), (152, .bool z23)]) (fun (z23 : Bool) => (mkH [⟨[.int .i64 0, .str [], .int .i64 0], 0, false⟩])) (fun z23 => ?_) (fun j23 hj23 => ?_)
               ·refine ok_split 152 (b := z23) (by kernel_rfl) (fun hb => ?_) (fun hb => ?_)
                ·let E29 : Env := [(154, .int .i64 z22), (153, .str a0), (152, .bool true), (0, .str a0), (1, .int .i64 a1), (4, .ptr 0 3 0), (7, .int .i64 0), (8, .int .i64 0), (10, .int .i64 z22), (152, .bool z23)]
                 refine ok_run 4 (p' := (atN 2 (ctl1 g15p49))) (env' := E29) (H' := (mkH [⟨[.int .i64 0, .str [], .int .i64 0], 0, false⟩])) (by kernel_rfl) ?_
                 refine ok_call (fun (x13_2 : Int) => .int .i64 x13_2) (atN 3 (ctl1 g15p49)) (fun x13_2 => ((155, .int .i64 x13_2) :: E29)) (fi := 24) (args := [.str a0, .int .i64 z22]) (by kernel_rfl) (by kernel_rfl) (fun _ => by kernel_rfl) (fun r h => g24_ok k a0 z22 r h) (fun _ => by kernel_rfl) (fun x13_2 hx13_2 => ?_)
                 let E30 : Env := ((8, .int .i64 (fwrap .i64 (x13_2 - a1))) :: (7, .int .i64 7) :: (157, .int .i64 (fwrap .i64 (x13_2 - a1))) :: (156, .int .i64 a1) :: (155, .int .i64 x13_2) :: E29)
                 refine ok_run 7 (p' := g15p17) (env' := E30) (H' := (mkH [⟨[.int .i64 0, .str [], .int .i64 0], 0, false⟩])) (by kernel_rfl) ?_
                 refine ok_keep [0, 1, 4, 7, 8] (env' := [(0, .str a0), (1, .int .i64 a1), (4, .ptr 0 3 0), (7, .int .i64 7), (8, .int .i64 (fwrap .i64 (x13_2 - a1)))]) (by kernel_rfl) ?_
                 exact hj20 (7, fwrap .i64 (x13_2 - a1))
                ·let E31 : Env := [(152, .bool false), (0, .str a0), (1, .int .i64 a1), (4, .ptr 0 3 0), (7, .int .i64 0), (8, .int .i64 0), (10, .int .i64 z22), (152, .bool z23)]
                 refine ok_run 4 (p' := g15p17) (env' := E31) (H' := (mkH [⟨[.int .i64 0, .str [], .int .i64 0], 0, false⟩])) (by kernel_rfl) ?_
                 refine ok_keep [0, 1, 4, 7, 8] (env' := [(0, .str a0), (1, .int .i64 a1), (4, .ptr 0 3 0), (7, .int .i64 0), (8, .int .i64 0)]) (by kernel_rfl) ?_
                 exact hj20 (0, 0)
               ·refine ok_split 141 (b := decide (z22 < (a0.length : Int))) (by kernel_rfl) (fun hb => ?_) (fun hb => ?_)
                ·refine ok_run 2 (p' := (atN 7 (ctl1 g15p47))) (env' := ((143, .int .i64 z22) :: (142, .str a0) :: (141, .bool true) :: E28)) (H' := (mkH [⟨[.int .i64 0, .str [], .int .i64 0], 0, false⟩])) (by kernel_rfl) ?_
                 refine ok_chk (fun (x12_7 : Int) => (.int .u8 x12_7, (mkH [⟨[.int .i64 0, .str [], .int .i64 0], 0, false⟩]))) (atN 8 (ctl1 g15p47)) (fun x12_7 => ((144, .int .u8 x12_7) :: (143, .int .i64 z22) :: (142, .str a0) :: (141, .bool true) :: E28)) (idxH (by kernel_rfl)) (fun _ => by kernel_rfl) (fun x12_7 hx12_7 => ?_)
                 refine ok_call (fun (x12_8 : Bool) => .bool x12_8) (atN 9 (ctl1 g15p47)) (fun x12_8 => ((145, .bool x12_8) :: (144, .int .u8 x12_7) :: (143, .int .i64 z22) :: (142, .str a0) :: (141, .bool true) :: E28)) (fi := 28) (args := [.int .u8 x12_7]) (by kernel_rfl) (by kernel_rfl) (fun _ => by kernel_rfl) (fun r h => g28_ok k x12_7 r h) (fun _ => by kernel_rfl) (fun x12_8 hx12_8 => ?_)
                 let E32 : Env := ((146, .bool x12_8) :: (145, .bool x12_8) :: (144, .int .u8 x12_7) :: (143, .int .i64 z22) :: (142, .str a0) :: (141, .bool true) :: E28)
                 refine ok_run 1 (p' := (atN 10 (ctl1 g15p47))) (env' := E32) (H' := (mkH [⟨[.int .i64 0, .str [], .int .i64 0], 0, false⟩])) (by kernel_rfl) ?_
                 refine ok_split 146 (b := x12_8) (by kernel_rfl) (fun hb => ?_) (fun hb => ?_)
                 ·let E33 : Env := ((152, .bool true) :: (151, .bool true) :: (150, .tuple []) :: (149, .tuple []) :: (148, .tuple []) :: (147, .tuple []) :: (146, .bool true) :: E32)
                  refine ok_run 7 (p' := g15p48) (env' := E33) (H' := (mkH [⟨[.int .i64 0, .str [], .int .i64 0], 0, false⟩])) (by kernel_rfl) ?_
                  refine ok_keep [0, 1, 4, 7, 8, 10, 152] (env' := [(0, .str a0), (1, .int .i64 a1), (4, .ptr 0 3 0), (7, .int .i64 0), (8, .int .i64 0), (10, .int .i64 z22), (152, .bool true)]) (by kernel_rfl) ?_
                  exact hj23 true
                 ·refine ok_run 2 (p' := (atN 12 (ctl1 g15p47))) (env' := ((148, .int .i64 z22) :: (147, .str a0) :: (146, .bool false) :: E32)) (H' := (mkH [⟨[.int .i64 0, .str [], .int .i64 0], 0, false⟩])) (by kernel_rfl) ?_
                  refine ok_chk (fun (x12_12 : Int) => (.int .u8 x12_12, (mkH [⟨[.int .i64 0, .str [], .int .i64 0], 0, false⟩]))) (atN 13 (ctl1 g15p47)) (fun x12_12 => ((149, .int .u8 x12_12) :: (148, .int .i64 z22) :: (147, .str a0) :: (146, .bool false) :: E32)) (idxH (by kernel_rfl)) (fun _ => by kernel_rfl) (fun x12_12 hx12_12 => ?_)
                  let E34 : Env := ((152, .bool (decide (x12_12 = 95))) :: (151, .bool (decide (x12_12 = 95))) :: (150, .bool (decide (x12_12 = 95))) :: (149, .int .u8 x12_12) :: (148, .int .i64 z22) :: (147, .str a0) :: (146, .bool false) :: E32)
                  refine ok_run 4 (p' := g15p48) (env' := E34) (H' := (mkH [⟨[.int .i64 0, .str [], .int .i64 0], 0, false⟩])) (by kernel_rfl) ?_
                  refine ok_keep [0, 1, 4, 7, 8, 10, 152] (env' := [(0, .str a0), (1, .int .i64 a1), (4, .ptr 0 3 0), (7, .int .i64 0), (8, .int .i64 0), (10, .int .i64 z22), (152, .bool (decide (x12_12 = 95)))]) (by kernel_rfl) ?_
                  exact hj23 (decide (x12_12 = 95))
                ·let E35 : Env := ((152, .bool false) :: (151, .tuple []) :: (150, .tuple []) :: (149, .tuple []) :: (148, .tuple []) :: (147, .tuple []) :: (146, .tuple []) :: (145, .tuple []) :: (144, .tuple []) :: (143, .tuple []) :: (142, .tuple []) :: (141, .bool false) :: E28)
                 refine ok_run 12 (p' := g15p48) (env' := E35) (H' := (mkH [⟨[.int .i64 0, .str [], .int .i64 0], 0, false⟩])) (by kernel_rfl) ?_
                 refine ok_keep [0, 1, 4, 7, 8, 10, 152] (env' := [(0, .str a0), (1, .int .i64 a1), (4, .ptr 0 3 0), (7, .int .i64 0), (8, .int .i64 0), (10, .int .i64 z22), (152, .bool false)]) (by kernel_rfl) ?_
                 exact hj23 false
              ·refine ok_split 134 (b := z21) (by kernel_rfl) (fun hb => ?_) (fun hb => ?_)
               ·let E36 : Env := [(10, .int .i64 (fwrap .i64 (fwrap .i64 (a1 + 1) + 1))), (136, .int .i64 (fwrap .i64 (fwrap .i64 (a1 + 1) + 1))), (135, .int .i64 (fwrap .i64 (a1 + 1))), (134, .bool true), (0, .str a0), (1, .int .i64 a1), (4, .ptr 0 3 0), (7, .int .i64 0), (8, .int .i64 0), (10, .int .i64 (fwrap .i64 (a1 + 1))), (134, .bool z21)]
                refine ok_run 7 (p' := g15p47) (env' := E36) (H' := (mkH [⟨[.int .i64 0, .str [], .int .i64 0], 0, false⟩])) (by kernel_rfl) ?_
                refine ok_keep [0, 1, 4, 7, 8, 10] (env' := [(0, .str a0), (1, .int .i64 a1), (4, .ptr 0 3 0), (7, .int .i64 0), (8, .int .i64 0), (10, .int .i64 (fwrap .i64 (fwrap .i64 (a1 + 1) + 1)))]) (by kernel_rfl) ?_
                exact hj22 (fwrap .i64 (fwrap .i64 (a1 + 1) + 1))
               ·let E37 : Env := [(134, .bool false), (0, .str a0), (1, .int .i64 a1), (4, .ptr 0 3 0), (7, .int .i64 0), (8, .int .i64 0), (10, .int .i64 (fwrap .i64 (a1 + 1))), (134, .bool z21)]
                refine ok_run 3 (p' := g15p47) (env' := E37) (H' := (mkH [⟨[.int .i64 0, .str [], .int .i64 0], 0, false⟩])) (by kernel_rfl) ?_
                refine ok_keep [0, 1, 4, 7, 8, 10] (env' := [(0, .str a0), (1, .int .i64 a1), (4, .ptr 0 3 0), (7, .int .i64 0), (8, .int .i64 0), (10, .int .i64 (fwrap .i64 (a1 + 1)))]) (by kernel_rfl) ?_
                exact hj22 (fwrap .i64 (a1 + 1))
             ·refine ok_split 129 (b := decide (fwrap .i64 (a1 + 1) < (a0.length : Int))) (by kernel_rfl) (fun hb => ?_) (fun hb => ?_)
              ·refine ok_run 2 (p' := (atN 7 (ctl1 g15p44))) (env' := ((131, .int .i64 (fwrap .i64 (a1 + 1))) :: (130, .str a0) :: (129, .bool true) :: E27)) (H' := (mkH [⟨[.int .i64 0, .str [], .int .i64 0], 0, false⟩])) (by kernel_rfl) ?_
               refine ok_chk (fun (x10_7 : Int) => (.int .u8 x10_7, (mkH [⟨[.int .i64 0, .str [], .int .i64 0], 0, false⟩]))) (atN 8 (ctl1 g15p44)) (fun x10_7 => ((132, .int .u8 x10_7) :: (131, .int .i64 (fwrap .i64 (a1 + 1))) :: (130, .str a0) :: (129, .bool true) :: E27)) (idxH (by kernel_rfl)) (fun _ => by kernel_rfl) (fun x10_7 hx10_7 => ?_)
               let E38 : Env := ((134, .bool (decide (x10_7 = 63))) :: (133, .bool (decide (x10_7 = 63))) :: (132, .int .u8 x10_7) :: (131, .int .i64 (fwrap .i64 (a1 + 1))) :: (130, .str a0) :: (129, .bool true) :: E27)
               refine ok_run 3 (p' := g15p45) (env' := E38) (H' := (mkH [⟨[.int .i64 0, .str [], .int .i64 0], 0, false⟩])) (by kernel_rfl) ?_
               refine ok_keep [0, 1, 4, 7, 8, 10, 134] (env' := [(0, .str a0), (1, .int .i64 a1), (4, .ptr 0 3 0), (7, .int .i64 0), (8, .int .i64 0), (10, .int .i64 (fwrap .i64 (a1 + 1))), (134, .bool (decide (x10_7 = 63)))]) (by kernel_rfl) ?_
               exact hj21 (decide (x10_7 = 63))
              ·let E39 : Env := ((134, .bool false) :: (133, .tuple []) :: (132, .tuple []) :: (131, .tuple []) :: (130, .tuple []) :: (129, .bool false) :: E27)
               refine ok_run 6 (p' := g15p45) (env' := E39) (H' := (mkH [⟨[.int .i64 0, .str [], .int .i64 0], 0, false⟩])) (by kernel_rfl) ?_
               refine ok_keep [0, 1, 4, 7, 8, 10, 134] (env' := [(0, .str a0), (1, .int .i64 a1), (4, .ptr 0 3 0), (7, .int .i64 0), (8, .int .i64 0), (10, .int .i64 (fwrap .i64 (a1 + 1))), (134, .bool false)]) (by kernel_rfl) ?_
               exact hj21 false
            ·let E40 : Env := [(24, .int .i64 a1), (23, .str a0), (120, .bool false), (0, .str a0), (1, .int .i64 a1), (4, .ptr 0 3 0), (7, .int .i64 0), (8, .int .i64 0), (120, .bool (decide (x0_2 = 63)))]
             refine ok_run 4 (p' := (atN 2 (ctl1 g15p43))) (env' := E40) (H' := (mkH [⟨[.int .i64 0, .str [], .int .i64 0], 0, false⟩])) (by kernel_rfl) ?_
             refine ok_call (fun (x11_2 : Int) => .int .i64 x11_2) (atN 3 (ctl1 g15p43)) (fun x11_2 => ((25, .int .i64 x11_2) :: E40)) (fi := 29) (args := [.str a0, .int .i64 a1]) (by kernel_rfl) (by kernel_rfl) (fun _ => by kernel_rfl) (fun r h => g29_ok k a0 a1 r h) (fun _ => by kernel_rfl) (fun x11_2 hx11_2 => ?_)
             refine ok_run 5 (p' := g15p17) (env' := ((8, .int .i64 x11_2) :: (7, .int .i64 9) :: (25, .int .i64 x11_2) :: E40)) (H' := (mkH [⟨[.int .i64 0, .str [], .int .i64 0], 0, false⟩])) (by kernel_rfl) ?_
             refine ok_keep [0, 1, 4, 7, 8] (env' := [(0, .str a0), (1, .int .i64 a1), (4, .ptr 0 3 0), (7, .int .i64 9), (8, .int .i64 x11_2)]) (by kernel_rfl) ?_
             exact hj20 (9, x11_2)
    ·refine ok_split 52 (b := decide (x0_2 = 46)) (by kernel_rfl) (fun hb => ?_) (fun hb => ?_)
     ·let E41 : Env := ((58, .bool (decide (fwrap .i64 (a1 + 1) = (a0.length : Int)))) :: (57, .bool (decide (fwrap .i64 (a1 + 1) = (a0.length : Int)))) :: (56, .int .i64 (a0.length : Int)) :: (55, .str a0) :: (54, .int .i64 (fwrap .i64 (a1 + 1))) :: (53, .int .i64 a1) :: (52, .bool true) :: E12)
      refine ok_run 6 (p' := (atN 9 (ctl1 g15p10))) (env' := E41) (H' := (mkH [⟨[.int .i64 0, .str [], .int .i64 0], 0, false⟩])) (by kernel_rfl) ?_
      refine ok_split 58 (b := decide (fwrap .i64 (a1 + 1) = (a0.length : Int))) (by kernel_rfl) (fun hb => ?_) (fun hb => ?_)
      ·let E42 : Env := ((49, .bool true) :: (74, .bool true) :: (73, .bool true) :: (72, .tuple []) :: (71, .tuple []) :: (70, .tuple []) :: (69, .tuple []) :: (68, .tuple []) :: (67, .tuple []) :: (66, .tuple []) :: (65, .bool true) :: (64, .bool true) :: (63, .tuple []) :: (62, .tuple []) :: (61, .tuple []) :: (60, .tuple []) :: (59, .tuple []) :: (58, .bool true) :: E41)
       refine ok_run 18 (p' := g15p12) (env' := E42) (H' := (mkH [⟨[.int .i64 0, .str [], .int .i64 0], 0, false⟩])) (by kernel_rfl) ?_
       refine ok_keep [0, 1, 4, 6, 7, 8, 49] (env' := [(0, .str a0), (1, .int .i64 a1), (4, .ptr 0 3 0), (6, .int .u8 x0_2), (7, .int .i64 0), (8, .int .i64 0), (49, .bool true)]) (by kernel_rfl) ?_
       exact hj19 true
      ·refine ok_run 3 (p' := (atN 12 (ctl1 g15p10))) (env' := ((61, .int .i64 (fwrap .i64 (a1 + 1))) :: (60, .int .i64 a1) :: (59, .str a0) :: (58, .bool false) :: E41)) (H' := (mkH [⟨[.int .i64 0, .str [], .int .i64 0], 0, false⟩])) (by kernel_rfl) ?_
       refine ok_chk (fun (x1_12 : Int) => (.int .u8 x1_12, (mkH [⟨[.int .i64 0, .str [], .int .i64 0], 0, false⟩]))) (atN 13 (ctl1 g15p10)) (fun x1_12 => ((62, .int .u8 x1_12) :: (61, .int .i64 (fwrap .i64 (a1 + 1))) :: (60, .int .i64 a1) :: (59, .str a0) :: (58, .bool false) :: E41)) (idxH (by kernel_rfl)) (fun _ => by kernel_rfl) (fun x1_12 hx1_12 => ?_)
       let E43 : Env := ((65, .bool (decide (x1_12 = 37))) :: (64, .bool (decide (x1_12 = 37))) :: (63, .bool (decide (x1_12 = 37))) :: (62, .int .u8 x1_12) :: (61, .int .i64 (fwrap .i64 (a1 + 1))) :: (60, .int .i64 a1) :: (59, .str a0) :: (58, .bool false) :: E41)
       refine ok_run 3 (p' := (atN 16 (ctl1 g15p10))) (env' := E43) (H' := (mkH [⟨[.int .i64 0, .str [], .int .i64 0], 0, false⟩])) (by kernel_rfl) ?_
       refine ok_split 65 (b := decide (x1_12 = 37)) (by kernel_rfl) (fun hb => ?_) (fun hb => ?_)
       ·let E44 : Env := ((49, .bool true) :: (74, .bool true) :: (73, .bool true) :: (72, .tuple []) :: (71, .tuple []) :: (70, .tuple []) :: (69, .tuple []) :: (68, .tuple []) :: (67, .tuple []) :: (66, .tuple []) :: (65, .bool true) :: E43)
        refine ok_run 11 (p' := g15p12) (env' := E44) (H' := (mkH [⟨[.int .i64 0, .str [], .int .i64 0], 0, false⟩])) (by kernel_rfl) ?_
        refine ok_keep [0, 1, 4, 6, 7, 8, 49] (env' := [(0, .str a0), (1, .int .i64 a1), (4, .ptr 0 3 0), (6, .int .u8 x0_2), (7, .int .i64 0), (8, .int .i64 0), (49, .bool true)]) (by kernel_rfl) ?_
        exact hj19 true
       ·refine ok_run 3 (p' := (atN 19 (ctl1 g15p10))) (env' := ((68, .int .i64 (fwrap .i64 (a1 + 1))) :: (67, .int .i64 a1) :: (66, .str a0) :: (65, .bool false) :: E43)) (H' := (mkH [⟨[.int .i64 0, .str [], .int .i64 0], 0, false⟩])) (by kernel_rfl) ?_
        refine ok_call (fun (x1_19 : Int) => .int .i64 x1_19) (atN 20 (ctl1 g15p10)) (fun x1_19 => ((69, .int .i64 x1_19) :: (68, .int .i64 (fwrap .i64 (a1 + 1))) :: (67, .int .i64 a1) :: (66, .str a0) :: (65, .bool false) :: E43)) (fi := 17) (args := [.str a0, .int .i64 (fwrap .i64 (a1 + 1))]) (by kernel_rfl) (by kernel_rfl) (fun _ => by kernel_rfl) (fun r h => g17_ok k a0 (fwrap .i64 (a1 + 1)) r h) (fun _ => by kernel_rfl) (fun x1_19 hx1_19 => ?_)
        let E45 : Env := ((49, .bool (decide (fwrap .i64 (a1 + 1) < x1_19))) :: (74, .bool (decide (fwrap .i64 (a1 + 1) < x1_19))) :: (73, .bool (decide (fwrap .i64 (a1 + 1) < x1_19))) :: (72, .bool (decide (fwrap .i64 (a1 + 1) < x1_19))) :: (71, .int .i64 (fwrap .i64 (a1 + 1))) :: (70, .int .i64 a1) :: (69, .int .i64 x1_19) :: (68, .int .i64 (fwrap .i64 (a1 + 1))) :: (67, .int .i64 a1) :: (66, .str a0) :: (65, .bool false) :: E43)
        refine ok_run 7 (p' := g15p12) (env' := E45) (H' := (mkH [⟨[.int .i64 0, .str [], .int .i64 0], 0, false⟩])) (by kernel_rfl) ?_
        refine ok_keep [0, 1, 4, 6, 7, 8, 49] (env' := [(0, .str a0), (1, .int .i64 a1), (4, .ptr 0 3 0), (6, .int .u8 x0_2), (7, .int .i64 0), (8, .int .i64 0), (49, .bool (decide (fwrap .i64 (a1 + 1) < x1_19)))]) (by kernel_rfl) ?_
        exact hj19 (decide (fwrap .i64 (a1 + 1) < x1_19))
     ·let E46 : Env := ((49, .bool false) :: (74, .bool false) :: (73, .tuple []) :: (72, .tuple []) :: (71, .tuple []) :: (70, .tuple []) :: (69, .tuple []) :: (68, .tuple []) :: (67, .tuple []) :: (66, .tuple []) :: (65, .tuple []) :: (64, .tuple []) :: (63, .tuple []) :: (62, .tuple []) :: (61, .tuple []) :: (60, .tuple []) :: (59, .tuple []) :: (58, .tuple []) :: (57, .tuple []) :: (56, .tuple []) :: (55, .tuple []) :: (54, .tuple []) :: (53, .tuple []) :: (52, .bool false) :: E12)
      refine ok_run 24 (p' := g15p12) (env' := E46) (H' := (mkH [⟨[.int .i64 0, .str [], .int .i64 0], 0, false⟩])) (by kernel_rfl) ?_
      refine ok_keep [0, 1, 4, 6, 7, 8, 49] (env' := [(0, .str a0), (1, .int .i64 a1), (4, .ptr 0 3 0), (6, .int .u8 x0_2), (7, .int .i64 0), (8, .int .i64 0), (49, .bool false)]) (by kernel_rfl) ?_
      exact hj19 false
 ·refine ok_split 13 (b := decide (a1 < 0)) (by kernel_rfl) (fun hb => ?_) (fun hb => ?_)
  ·let E47 : Env := ((18, .bool true) :: (17, .tuple []) :: (16, .tuple []) :: (15, .tuple []) :: (14, .tuple []) :: (13, .bool true) :: E1)
   refine ok_run 6 (p' := g15p2) (env' := E47) (H' := (mkH [⟨[.int .i64 0, .str [], .int .i64 0], 0, false⟩])) (by kernel_rfl) ?_
   refine ok_keep [0, 1, 4, 18] (env' := [(0, .str a0), (1, .int .i64 a1), (4, .ptr 0 3 0), (18, .bool true)]) (by kernel_rfl) ?_
   exact hj17 true
  ·let E48 : Env := ((18, .bool (decide ((a0.length : Int) ≤ a1))) :: (17, .bool (decide ((a0.length : Int) ≤ a1))) :: (16, .int .i64 (a0.length : Int)) :: (15, .str a0) :: (14, .int .i64 a1) :: (13, .bool false) :: E1)
   refine ok_run 6 (p' := g15p2) (env' := E48) (H' := (mkH [⟨[.int .i64 0, .str [], .int .i64 0], 0, false⟩])) (by kernel_rfl) ?_
   refine ok_keep [0, 1, 4, 18] (env' := [(0, .str a0), (1, .int .i64 a1), (4, .ptr 0 3 0), (18, .bool (decide ((a0.length : Int) ≤ a1)))]) (by kernel_rfl) ?_
   exact hj17 (decide ((a0.length : Int) ≤ a1))
end
end Go.Proofs.Ytokcjgjgojlhbaa.Am
set_option maxRecDepth 100000
set_option linter.unusedVariables false
namespace Go.Proofs.Ytokcjgjgojlhbaa.Am
noncomputable section
open Go
def X12 : Fx ((List S28) × Int) := ⟨Try.prog, cx, Try.f12, fun r => .tuple [.vec (r.1).length 3 ((r.1).flatMap e29), .int .i64 r.2], 0, fun _ => H0, cxTi, cxOrd⟩
def g12p0 : Pt := nav [0] (bodyAt Try.f12)
def g12p1 : Pt := nav [0, 0, 0, 0] g12p0
def g12p2 : Pt := nav [0, 0] g12p1
def g12p4 : Pt := nav [2, 0, 0, 0] g12p2
def g12p6 : Pt := nav [0, 0] g12p4
def g12p8 : Pt := nav [2, 0, 0] g12p6
def g12p9 : Pt := nav [0, 0, 0, 0] g12p8
def g12p10 : Pt := nav [0, 0, 0, 0] g12p9
def g12p11 : Pt := nav [0, 0, 0] g12p10
def g12p12 : Pt := nav [0, 0] g12p11
def g12p13 : Pt := nav [1, 0, 0, 0] g12p12
def g12p15 : Pt := nav [0, 0, 0, 0] g12p13
def g12p16 : Pt := nav [0, 0] g12p15
def g12p18 : Pt := nav [2, 0, 0] g12p16
def g12p19 : Pt := nav [0, 0] g12p18
def g12_l5 (k : Nat)  (a0 : (List Nat)) (n : Nat) : Int → (List S28) → Option ((List S28) × Int) :=
 Nat.rec (motive := fun _ => Int → (List S28) → Option ((List S28) × Int)) (fun _ _ => none) (fun _ ih => fun (y5_0 : Int) (y5_1 : (List S28)) => if (decide (y5_0 < (a0.length : Int))) then ((g15 k a0 y5_0).bind fun x2_2 => if (!decide (x2_2.2 = 0)) then (some (([] : List S28), x2_2.2)) else ((appS 32 y5_1 ([(⟨x2_2.1.f0, x2_2.1.f1, x2_2.1.f2⟩ : S28)] : List S28)).bind fun x3_3 => (g17 k a0 (fwrap .i64 (y5_0 + (x2_2.1.f1.length : Int)))).bind fun x4_6 => ih x4_6 x3_3)) else (some (y5_1, (0 : Int)))) n
theorem g12_l5_s (k : Nat)  (a0 : (List Nat)) (n : Nat) (y5_0 : Int) (y5_1 : (List S28)) : g12_l5 k a0 (n + 1) y5_0 y5_1 = (if (decide (y5_0 < (a0.length : Int))) then ((g15 k a0 y5_0).bind fun x2_2 => if (!decide (x2_2.2 = 0)) then (some (([] : List S28), x2_2.2)) else ((appS 32 y5_1 ([(⟨x2_2.1.f0, x2_2.1.f1, x2_2.1.f2⟩ : S28)] : List S28)).bind fun x3_3 => (g17 k a0 (fwrap .i64 (y5_0 + (x2_2.1.f1.length : Int)))).bind fun x4_6 => (g12_l5 k a0 n) x4_6 x3_3)) else (some (y5_1, (0 : Int)))) := rfl
theorem g12_l5_ok (k : Nat)  (a0 : (List Nat))  : ∀ (n : Nat) (y5_0 : Int) (y5_1 : (List S28)), Ok X12 g12p10 [(0, .str a0), (4, .own 0 (y5_1).length 3), (5, .int .i64 y5_0)] (mkH [⟨(y5_1).flatMap e29, 0, false⟩]) (g12_l5 k a0 n y5_0 y5_1)
 | 0, _, _ => ok_none
 | n + 1, y5_0, y5_1 => by
  have ih := g12_l5_ok k a0 n
  rw [g12_l5_s]
  refine ok_ent (p' := nav [0] g12p10) (by kernel_rfl) ?_
  let E4 : Env := [(19, .bool (decide (y5_0 < (a0.length : Int)))), (18, .int .i64 (a0.length : Int)), (17, .str a0), (16, .int .i64 y5_0), (0, .str a0), (4, .own 0 (y5_1).length 3), (5, .int .i64 y5_0)]
  refine ok_run 8 (p' := g12p12) (env' := E4) (H' := (mkH [⟨(y5_1).flatMap e29, 0, false⟩])) (by kernel_rfl) ?_
  refine ok_split 19 (b := decide (y5_0 < (a0.length : Int))) (by kernel_rfl) (fun hb => ?_) (fun hb => ?_)
  ·refine ok_run 7 (p' := (atN 2 (ctl1 g12p13))) (env' := ((22, .int .i64 y5_0) :: (21, .str a0) :: (19, .bool true) :: E4)) (H' := (mkH [⟨(y5_1).flatMap e29, 0, false⟩])) (by kernel_rfl) ?_
   refine ok_call (fun (x2_2 : (S28 × Int)) => .tuple [.agg [.int .i64 x2_2.1.f0, .str x2_2.1.f1, .int .i64 x2_2.1.f2], .int .i64 x2_2.2]) (atN 3 (ctl1 g12p13)) (fun x2_2 => ((23, .tuple [.agg [.int .i64 x2_2.1.f0, .str x2_2.1.f1, .int .i64 x2_2.1.f2], .int .i64 x2_2.2]) :: (22, .int .i64 y5_0) :: (21, .str a0) :: (19, .bool true) :: E4)) (fi := 15) (args := [.str a0, .int .i64 y5_0]) (by kernel_rfl) (by kernel_rfl) (fun _ => by kernel_rfl) (fun r h => g15_ok k a0 y5_0 r h) (fun _ => by kernel_rfl) (fun x2_2 hx2_2 => ?_)
   let E5 : Env := ((7, .int .i64 x2_2.2) :: (6, .ptr 1 3 0) :: (25, .int .i64 x2_2.2) :: (24, .agg [.int .i64 x2_2.1.f0, .str x2_2.1.f1, .int .i64 x2_2.1.f2]) :: (20, .tuple [.agg [.int .i64 x2_2.1.f0, .str x2_2.1.f1, .int .i64 x2_2.1.f2], .int .i64 x2_2.2]) :: (23, .tuple [.agg [.int .i64 x2_2.1.f0, .str x2_2.1.f1, .int .i64 x2_2.1.f2], .int .i64 x2_2.2]) :: (22, .int .i64 y5_0) :: (21, .str a0) :: (19, .bool true) :: E4)
   refine ok_run 9 (p' := g12p15) (env' := E5) (H' := (mkH [⟨(y5_1).flatMap e29, 0, false⟩, ⟨[.int .i64 x2_2.1.f0, .str x2_2.1.f1, .int .i64 x2_2.1.f2], 3, false⟩])) (by kernel_rfl) ?_
   refine ok_keep [0, 4, 5, 6, 7] (env' := [(0, .str a0), (4, .own 0 (y5_1).length 3), (5, .int .i64 y5_0), (6, .ptr 1 3 0), (7, .int .i64 x2_2.2)]) (by kernel_rfl) ?_
   let E6 : Env := [(27, .bool (!decide (x2_2.2 = 0))), (26, .int .i64 x2_2.2), (0, .str a0), (4, .own 0 (y5_1).length 3), (5, .int .i64 y5_0), (6, .ptr 1 3 0), (7, .int .i64 x2_2.2)]
   refine ok_run 4 (p' := g12p16) (env' := E6) (H' := (mkH [⟨(y5_1).flatMap e29, 0, false⟩, ⟨[.int .i64 x2_2.1.f0, .str x2_2.1.f1, .int .i64 x2_2.1.f2], 3, false⟩])) (by kernel_rfl) ?_
   refine ok_split 27 (b := !decide (x2_2.2 = 0)) (by kernel_rfl) (fun hb => ?_) (fun hb => ?_)
   ·refine ok_run 8 (p' := .fin) (env' := ((3, .int .i64 x2_2.2) :: (2, .nils) :: (28, .int .i64 x2_2.2) :: (27, .bool true) :: E6)) (H' := (mkH [⟨(y5_1).flatMap e29, 0, false⟩, ⟨[.int .i64 x2_2.1.f0, .str x2_2.1.f1, .int .i64 x2_2.1.f2], 3, false⟩])) (by kernel_rfl) ?_
    exact ok_ret (r := (([] : List S28), x2_2.2)) (xs := [.nils, .int .i64 x2_2.2]) (v := .tuple [.vec 0 3 [], .int .i64 x2_2.2]) (by kernel_rfl) (by kernel_rfl) (by kernel_rfl) (.tuple (.nil (.pures (by kernel_rfl))) (.pures (by kernel_rfl))) (by kernel_rfl)
   ·refine ok_run 7 (p' := (atN 3 (ctl1 g12p18))) (env' := ((31, .slice 2 3 0 1 3) :: (30, .agg [.int .i64 x2_2.1.f0, .str x2_2.1.f1, .int .i64 x2_2.1.f2]) :: (29, .own 0 (y5_1).length 3) :: (27, .bool false) :: E6)) (H' := (mkH [⟨(y5_1).flatMap e29, 0, false⟩, ⟨[.int .i64 x2_2.1.f0, .str x2_2.1.f1, .int .i64 x2_2.1.f2], 3, false⟩, ⟨[.int .i64 x2_2.1.f0, .str x2_2.1.f1, .int .i64 x2_2.1.f2], 0, false⟩])) (by kernel_rfl) ?_
    refine ok_chk (fun (x3_3 : (List S28)) => (.own 0 (x3_3).length 3, (mkH [⟨(x3_3).flatMap e29, 0, false⟩, ⟨[.int .i64 x2_2.1.f0, .str x2_2.1.f1, .int .i64 x2_2.1.f2], 3, false⟩, ⟨[.int .i64 x2_2.1.f0, .str x2_2.1.f1, .int .i64 x2_2.1.f2], 0, false⟩]))) (atN 4 (ctl1 g12p18)) (fun x3_3 => ((32, .own 0 (x3_3).length 3) :: (31, .slice 2 3 0 1 3) :: (30, .agg [.int .i64 x2_2.1.f0, .str x2_2.1.f1, .int .i64 x2_2.1.f2]) :: (29, .own 0 (y5_1).length 3) :: (27, .bool false) :: E6)) (appH (sz := 3) e29_len rfl e29_one [⟨(y5_1).flatMap e29, 0, false⟩, ⟨[.int .i64 x2_2.1.f0, .str x2_2.1.f1, .int .i64 x2_2.1.f2], 3, false⟩, ⟨[.int .i64 x2_2.1.f0, .str x2_2.1.f1, .int .i64 x2_2.1.f2], 0, false⟩] 0 32 y5_1 ([(⟨x2_2.1.f0, x2_2.1.f1, x2_2.1.f2⟩ : S28)] : List S28) rfl rfl (by kernel_rfl)) (fun _ => by kernel_rfl) (fun x3_3 hx3_3 => ?_)
    let E7 : Env := ((4, .own 0 (x3_3).length 3) :: (32, .own 0 (x3_3).length 3) :: (31, .slice 2 3 0 1 3) :: (30, .agg [.int .i64 x2_2.1.f0, .str x2_2.1.f1, .int .i64 x2_2.1.f2]) :: (29, .own 0 (y5_1).length 3) :: (27, .bool false) :: E6)
    refine ok_run 2 (p' := g12p19) (env' := E7) (H' := (mkH [⟨(x3_3).flatMap e29, 0, false⟩, ⟨[.int .i64 x2_2.1.f0, .str x2_2.1.f1, .int .i64 x2_2.1.f2], 3, false⟩, ⟨[.int .i64 x2_2.1.f0, .str x2_2.1.f1, .int .i64 x2_2.1.f2], 0, false⟩])) (by kernel_rfl) ?_
    refine ok_keep [0, 4, 5, 6] (env' := [(0, .str a0), (4, .own 0 (x3_3).length 3), (5, .int .i64 y5_0), (6, .ptr 1 3 0)]) (by kernel_rfl) ?_
    let E8 : Env := [(38, .int .i64 (fwrap .i64 (y5_0 + (x2_2.1.f1.length : Int)))), (37, .int .i64 (x2_2.1.f1.length : Int)), (36, .str x2_2.1.f1), (35, .ptr 1 3 1), (34, .int .i64 y5_0), (33, .str a0), (0, .str a0), (4, .own 0 (x3_3).length 3), (5, .int .i64 y5_0), (6, .ptr 1 3 0)]
    refine ok_run 7 (p' := (atN 6 (ctl1 g12p19))) (env' := E8) (H' := (mkH [⟨(x3_3).flatMap e29, 0, false⟩, ⟨[.int .i64 x2_2.1.f0, .str x2_2.1.f1, .int .i64 x2_2.1.f2], 3, false⟩, ⟨[.int .i64 x2_2.1.f0, .str x2_2.1.f1, .int .i64 x2_2.1.f2], 0, false⟩])) (by kernel_rfl) ?_
    refine ok_call (fun (x4_6 : Int) => .int .i64 x4_6) (atN 7 (ctl1 g12p19)) (fun x4_6 => ((39, .int .i64 x4_6) :: E8)) (fi := 17) (args := [.str a0, .int .i64 (fwrap .i64 (y5_0 + (x2_2.1.f1.length : Int)))]) (by kernel_rfl) (by kernel_rfl) (fun _ => by kernel_rfl) (fun r h => g17_ok k a0 (fwrap .i64 (y5_0 + (x2_2.1.f1.length : Int))) r h) (fun _ => by kernel_rfl) (fun x4_6 hx4_6 => ?_)
    refine ok_run 2 (p' := g12p10) (env' := ((5, .int .i64 x4_6) :: (39, .int .i64 x4_6) :: E8)) (H' := (mkH [⟨(x3_3).flatMap e29, 0, false⟩, ⟨[.int .i64 x2_2.1.f0, .str x2_2.1.f1, .int .i64 x2_2.1.f2], 3, false⟩, ⟨[.int .i64 x2_2.1.f0, .str x2_2.1.f1, .int .i64 x2_2.1.f2], 0, false⟩])) (by kernel_rfl) ?_
    refine ok_keep [0, 4, 5] (env' := [(0, .str a0), (4, .own 0 (x3_3).length 3), (5, .int .i64 x4_6)]) (by kernel_rfl) ?_
    refine ok_cut [⟨(x3_3).flatMap e29, 0, false⟩] [⟨[.int .i64 x2_2.1.f0, .str x2_2.1.f1, .int .i64 x2_2.1.f2], 3, false⟩, ⟨[.int .i64 x2_2.1.f0, .str x2_2.1.f1, .int .i64 x2_2.1.f2], 0, false⟩] (by kernel_rfl) rfl (by kernel_rfl) ⟨(purs_belows _ (purs_flatMap e29_pur _)), trivial⟩ ?_
    exact ih x4_6 x3_3
  ·refine ok_run 9 (p' := .fin) (env' := ((3, .int .i64 0) :: (2, .own 0 (y5_1).length 3) :: (40, .own 0 (y5_1).length 3) :: (19, .bool false) :: E4)) (H' := (mkH [⟨(y5_1).flatMap e29, 0, false⟩])) (by kernel_rfl) ?_
   exact ok_ret (r := (y5_1, (0 : Int))) (xs := [.own 0 (y5_1).length 3, .int .i64 0]) (v := .tuple [.vec (y5_1).length 3 ((y5_1).flatMap e29), .int .i64 0]) (by kernel_rfl) (by kernel_rfl) (by kernel_rfl) (.tuple (fz_own e29_len e29_pur rfl rfl (.pures (by kernel_rfl))) (.pures (by kernel_rfl))) (by kernel_rfl)
def g12 (k : Nat) (a0 : (List Nat)) : Option ((List S28) × Int) :=
 if (decide (65536 < (a0.length : Int))) then (some (([] : List S28), (3 : Int))) else ((g19 k a0).bind fun x0_1 => if (!x0_1) then (some (([] : List S28), (2 : Int))) else ((g17 k a0 (0 : Int)).bind fun x1_1 => g12_l5 k a0 k x1_1 ([] : List S28)))
theorem g12_ok (k : Nat) (a0 : (List Nat)) (r : ((List S28) × Int)) (h : g12 k a0 = some r) : PureOk Try.prog 12 [.str a0] (.tuple [.vec (r.1).length 3 ((r.1).flatMap e29), .int .i64 r.2]) := by
 refine pure_of X12 (fun _ => rfl) Try.func12 (by decide +kernel) (by kernel_rfl) (t := g12 k a0) ?_ h
 unfold g12
 refine ok_env (env' := [(0, .str a0)]) (by kernel_rfl) ?_
 let E1 : Env := [(10, .bool (decide (65536 < (a0.length : Int)))), (9, .int .i64 (a0.length : Int)), (8, .str a0), (3, .int .i64 0), (2, .nils), (0, .str a0)]
 refine ok_run 12 (p' := g12p2) (env' := E1) (H' := (mkH [])) (by kernel_rfl) ?_
 refine ok_split 10 (b := decide (65536 < (a0.length : Int))) (by kernel_rfl) (fun hb => ?_) (fun hb => ?_)
 ·refine ok_run 7 (p' := .fin) (env' := ((3, .int .i64 3) :: (2, .nils) :: (10, .bool true) :: E1)) (H' := (mkH [])) (by kernel_rfl) ?_
  exact ok_ret (r := (([] : List S28), (3 : Int))) (xs := [.nils, .int .i64 3]) (v := .tuple [.vec 0 3 [], .int .i64 3]) (by kernel_rfl) (by kernel_rfl) (by kernel_rfl) (.tuple (.nil (.pures (by kernel_rfl))) (.pures (by kernel_rfl))) (by kernel_rfl)
 ·refine ok_run 6 (p' := (atN 1 (ctl1 g12p4))) (env' := ((11, .str a0) :: (10, .bool false) :: E1)) (H' := (mkH [])) (by kernel_rfl) ?_
  refine ok_call (fun (x0_1 : Bool) => .bool x0_1) (atN 2 (ctl1 g12p4)) (fun x0_1 => ((12, .bool x0_1) :: (11, .str a0) :: (10, .bool false) :: E1)) (fi := 19) (args := [.str a0]) (by kernel_rfl) (by kernel_rfl) (fun _ => by kernel_rfl) (fun r h => g19_ok k a0 r h) (fun _ => by kernel_rfl) (fun x0_1 hx0_1 => ?_)
  refine ok_run 2 (p' := g12p6) (env' := ((13, .bool (!x0_1)) :: (12, .bool x0_1) :: (11, .str a0) :: (10, .bool false) :: E1)) (H' := (mkH [])) (by kernel_rfl) ?_
  refine ok_keep [0, 13] (env' := [(0, .str a0), (13, .bool (!x0_1))]) (by kernel_rfl) ?_
  refine ok_split 13 (b := !x0_1) (by kernel_rfl) (fun hb => ?_) (fun hb => ?_)
  ·let E2 : Env := [(3, .int .i64 2), (2, .nils), (13, .bool true), (0, .str a0), (13, .bool (!x0_1))]
   refine ok_run 7 (p' := .fin) (env' := E2) (H' := (mkH [])) (by kernel_rfl) ?_
   exact ok_ret (r := (([] : List S28), (2 : Int))) (xs := [.nils, .int .i64 2]) (v := .tuple [.vec 0 3 [], .int .i64 2]) (by kernel_rfl) (by kernel_rfl) (by kernel_rfl) (.tuple (.nil (.pures (by kernel_rfl))) (.pures (by kernel_rfl))) (by kernel_rfl)
  ·refine ok_run 5 (p' := (atN 1 (ctl1 g12p8))) (env' := [(4, .nils), (13, .bool false), (0, .str a0), (13, .bool (!x0_1))]) (H' := (mkH [])) (by kernel_rfl) ?_
   refine ok_own [] 4 3 rfl (by kernel_rfl) ?_
   refine ok_env (env' := [(4, .own 0 (([] : List S28)).length 3), (4, .nils), (13, .bool false), (0, .str a0), (13, .bool (!x0_1))]) (by kernel_rfl) ?_
   refine ok_heap (H' := (mkH [⟨(([] : List S28)).flatMap e29, 0, false⟩])) (by kernel_rfl) ?_
   let E3 : Env := [(14, .str a0), (4, .own 0 (([] : List S28)).length 3), (4, .nils), (13, .bool false), (0, .str a0), (13, .bool (!x0_1))]
   refine ok_run 5 (p' := (atN 1 (ctl1 g12p9))) (env' := E3) (H' := (mkH [⟨(([] : List S28)).flatMap e29, 0, false⟩])) (by kernel_rfl) ?_
   refine ok_call (fun (x1_1 : Int) => .int .i64 x1_1) (atN 2 (ctl1 g12p9)) (fun x1_1 => ((15, .int .i64 x1_1) :: E3)) (fi := 17) (args := [.str a0, .int .i64 0]) (by kernel_rfl) (by kernel_rfl) (fun _ => by kernel_rfl) (fun r h => g17_ok k a0 (0 : Int) r h) (fun _ => by kernel_rfl) (fun x1_1 hx1_1 => ?_)
   refine ok_run 4 (p' := g12p10) (env' := ((5, .int .i64 x1_1) :: (15, .int .i64 x1_1) :: E3)) (H' := (mkH [⟨(([] : List S28)).flatMap e29, 0, false⟩])) (by kernel_rfl) ?_
   refine ok_keep [0, 4, 5] (env' := [(0, .str a0), (4, .own 0 (([] : List S28)).length 3), (5, .int .i64 x1_1)]) (by kernel_rfl) ?_
   exact (g12_l5_ok k a0 k) x1_1 ([] : List S28)
end
end Go.Proofs.Ytokcjgjgojlhbaa.Am
set_option maxRecDepth 100000
set_option linter.unusedVariables false
set_option linter.unusedSimpArgs false
namespace Go.Proofs.Ytokcjgjgojlhbaa.Am
open Go
theorem rblank_l (k : Nat) {s : List Nat} (hs : By s) (hl : Sz s) : ∀ (f i : Nat), s.length < i + f → i ≤ s.length → g17_l1 k s f (i : Int) = some ((i + skipN (s.drop i) : Nat) : Int)
 | 0, i, h, h2 => by omega
 | f + 1, i, h, h2 => by
  have hl' := hl
  unfold Sz at hl
  rw [g17_l1_s]
  rcases Nat.lt_or_ge i s.length with hi | hi
  ·obtain ⟨c, r, hc, hr, hm, hrl⟩ := dcons hi
   have ih := rblank_l k hs hl' f (i + 1) (by omega) (by omega)
   rw [hr] at ih
   have nc := nthX (x := (i : Int)) rfl hc
   refine (jS (v := (blkN c, (i : Int))) (fun j => ?_)).trans ?_
   ·refine iT (by first | (simp (disch := omega) only [↓reduceIte, ↓jn, gsL]; done) | rfl) ?_
    refine bS (by (try simp (disch := omega) only [fwI]); exact nc) ?_
    unfold blkN
    by_cases h1 : c = 32
    ·refine iT (dT (by omega)) ?_
     rw [decide_eq_true h1]; rfl
    refine iF (dF (by omega)) ?_
    refine bS (by (try simp (disch := omega) only [fwI]); exact nc) ?_
    rw [decide_eq_false h1]
    by_cases h2 : c = 9
    ·refine iT (dT (by omega)) ?_
     rw [decide_eq_true h2]; rfl
    refine iF (dF (by omega)) ?_
    refine bS (by (try simp (disch := omega) only [fwI]); exact nc) ?_
    rw [decide_eq_false h2]
    by_cases h3 : c = 10
    ·refine iT (dT (by omega)) ?_
     rw [decide_eq_true h3]; rfl
    refine iF (dF (by omega)) ?_
    refine bS (by (try simp (disch := omega) only [fwI]); exact nc) ?_
    rw [decide_eq_false h3]
    have : decide ((c : Int) = 13) = decide (c = 13) := by rw [Bool.eq_iff_iff]; simp; omega
    rw [this]; rfl
   ·rw [hc]
    simp only [skipN]
    cases blkN c with
    | true =>
     refine iT rfl ?_
     rw [fw_s (by omega)]
     refine ih.trans (sn ?_)
     simp only [if_true]; omega
    | false =>
     refine iF rfl ?_
     simp only [Bool.false_eq_true, if_false]; rfl
  ·refine (jS (v := (false, (i : Int))) (fun j => ?_)).trans ?_
   ·simp (disch := omega) only [↓reduceIte, ↓jn, gsL]
   ·refine iF rfl ?_
    rw [dnil hi]; rfl
theorem rblank_at {k : Nat} {s : List Nat} (hk : s.length < k) (hs : By s) (hl : Sz s) {a : Nat} (ha : a ≤ s.length) : g17 k s (a : Int) = some ((a + skipN (s.drop a) : Nat) : Int) := rblank_l k hs hl k a (by omega) ha
theorem rinner_l (k : Nat) {s : List Nat} (hs : By s) (hl : Sz s) : ∀ (f i : Nat), s.length < i + f → i ≤ s.length → g24_l1 k s f (i : Int) = some ((i + innN (s.drop i) : Nat) : Int)
 | 0, i, h, h2 => by omega
 | f + 1, i, h, h2 => by
  have hl' := hl
  unfold Sz at hl
  rw [g24_l1_s]
  rcases Nat.lt_or_ge i s.length with hi | hi
  ·obtain ⟨c, r, hc, hr, hm, hrl⟩ := dcons hi
   have ih := rinner_l k hs hl' f (i + 1) (by omega) (by omega)
   rw [hr] at ih
   have nc := nthX (x := (i : Int)) rfl hc
   have bc := inner_at45 k (hs c hm)
   refine (jS (v := (inrN c, (i : Int))) (fun j => ?_)).trans ?_
   ·refine iT (by first | (simp (disch := omega) only [↓reduceIte, ↓jn, gsL]; done) | rfl) ?_
    refine bS (by (try simp (disch := omega) only [fwI]); exact nc) ?_
    refine bS (by (try simp (disch := omega) only [fwI]); exact bc) ?_
    rfl
   ·rw [hc]
    simp only [innN]
    cases inrN c with
    | true =>
     refine iT rfl ?_
     rw [fw_s (by omega)]
     refine ih.trans (sn ?_)
     simp only [if_true]; omega
    | false =>
     refine iF rfl ?_
     simp only [Bool.false_eq_true, if_false]; rfl
  ·refine (jS (v := (false, (i : Int))) (fun j => ?_)).trans ?_
   ·simp (disch := omega) only [↓reduceIte, ↓jn, gsL]
   ·refine iF rfl ?_
    rw [dnil hi]; rfl
theorem rinner_at {k : Nat} {s : List Nat} (hk : s.length < k) (hs : By s) (hl : Sz s) {a : Nat} (ha : a ≤ s.length) : g24 k s (a : Int) = some ((a + innN (s.drop a) : Nat) : Int) := rinner_l k hs hl k a (by omega) ha
theorem rquoted_l {k : Nat} (hk : 6 ≤ k) {s : List Nat} (hs : By s) (hl : Sz s) {a q : Nat} {t : List Nat} (hq : s.drop a = q :: t) (hq2 : q = 39 ∨ q = 34) : ∀ (d f i : Nat), s.length ≤ i + d → d < f → i ≤ s.length → a ≤ i → g26_l3 k s (a : Int) f (i : Int) = some ((bmp (i - a) (quoN q d (s.drop i)) : Nat) : Int) := by
 have na : nthS s (a : Int) = some (q : Int) := nthX rfl hq
 have hl' := hl
 unfold Sz at hl
 intro d
 induction d with
 | zero =>
  intro f i h1 hf h2 hai
  obtain ⟨f, rfl⟩ : ∃ f', f = f' + 1 := ⟨f - 1, by omega⟩
  rw [dnil (by omega : s.length ≤ i), g26_l3_s]
  refine (jS (v := (false, (i : Int))) (fun j => ?_)).trans ?_
  ·simp (disch := omega) only [↓reduceIte, ↓jn, gsL]
  ·refine iF rfl ?_
   refine iT (by first | (simp (disch := omega) only [↓reduceIte, ↓jn, gsL]; done) | rfl) ?_
   rfl
 | succ d ih =>
  intro f i h1 hf h2 hai
  obtain ⟨f, rfl⟩ : ∃ f', f = f' + 1 := ⟨f - 1, by omega⟩
  rw [g26_l3_s]
  rcases Nat.lt_or_ge i s.length with hi | hi
  ·obtain ⟨c, r, hc, hr, hm, hrl⟩ := dcons hi
   have nc := nthX (x := (i : Int)) rfl hc
   rw [hc]
   simp only [quoN]
   by_cases hcq : c = q
   ·subst hcq
    rw [if_pos rfl]
    refine (jS (v := (false, (i : Int))) (fun j => ?_)).trans ?_
    ·refine iT (by first | (simp (disch := omega) only [↓reduceIte, ↓jn, gsL]; done) | rfl) ?_
     refine bS (by (try simp (disch := omega) only [fwI]); exact nc) ?_
     refine bS (by (try simp (disch := omega) only [fwI]); exact na) ?_
     rw [dT rfl]; rfl
    ·refine iF rfl ?_
     refine iF (by first | (simp (disch := omega) only [↓reduceIte, ↓jn, gsL]; done) | rfl) ?_
     rw [fw_s (by omega), fwI (by omega) (by omega)]
     unfold bmp
     rw [if_neg (by decide)]
     exact congrArg some (by omega)
   ·rw [if_neg hcq]
    refine (jS (v := (true, (i : Int))) (fun j => ?_)).trans ?_
    ·refine iT (by first | (simp (disch := omega) only [↓reduceIte, ↓jn, gsL]; done) | rfl) ?_
     refine bS (by (try simp (disch := omega) only [fwI]); exact nc) ?_
     refine bS (by (try simp (disch := omega) only [fwI]); exact na) ?_
     rw [dF (by omega)]; rfl
    ·refine iT rfl ?_
     refine bS (by (try simp (disch := omega) only [fwI]); exact nc) ?_
     have step : ∀ (p : Nat) (u : List Nat), p ≤ s.length → s.drop p = u → i ≤ p → p ≤ i + 1 →
      (g32 k s (p : Int)).bind (fun x2_2 => jn (fun (z6 : Bool) => if z6 then (some (0 : Int)) else (g26_l3 k s (a : Int) f (fwrap .i64 ((p : Int) + x2_2.2)))) (fun j6 => if (decide (x2_2.1 < 32)) then (j6 true) else (j6 (decide (x2_2.1 = 127))))) = some ((bmp (i - a) (bmp (p - i + shwN u) (if shwN u = 0 then 0 else quoN q d (u.drop (shwN u)))) : Nat) : Int) := by
      intro p u hp hu hip hip1
      have nx := rnext_at hk hs hl' p
      rw [hu] at nx
      refine bS (by (try simp (disch := omega) only [fwI]); exact nx) ?_
      by_cases h : (dec u).1 < 32 ∨ (dec u).1 = 127
      ·have sw : shwN u = 0 := by unfold shwN; rw [if_pos h]
       rw [sw, if_pos rfl]
       refine (jS (v := true) (fun j => ?_)).trans rfl
       by_cases h1 : (dec u).1 < 32
       ·refine iT (dT h1) rfl
       ·refine iF (dF h1) ?_
        rw [dT (by omega)]
      ·have une : u ≠ [] := by intro e; rw [e] at h; exact h (.inl (by decide))
       obtain ⟨n, n1, n2, n3, n4, -⟩ := dec_size une
       have sw : shwN u = n := by unfold shwN; rw [if_neg h, n1, Int.toNat_natCast]
       rw [sw, if_neg (by clear n1; omega), n1]
       refine (jS (v := false) (fun j => ?_)).trans ?_
       ·refine iF (dF (by omega)) ?_
        rw [dF (by omega)]
       ·refine iF rfl ?_
        have ul : u.length = s.length - p := by rw [← hu, List.length_drop]
        clear n1 nx
        rw [fw_a (by omega) (by omega)]
        refine (ih f (p + n) (by omega) (by omega) (by omega) (by omega)).trans (sn ?_)
        rw [← List.drop_drop, hu]
        unfold bmp
        repeat' split
        all_goals omega
     by_cases h92 : c = 92
     ·subst h92
      rw [if_pos rfl]
      refine (jS (v := ((i + 1 : Nat) : Int)) (fun j => ?_)).trans ?_
      ·refine iT rfl ?_
       rw [fw_s (by omega)]
      ·have := step (i + 1) r (by omega) hr (by omega) (Nat.le_refl _)
       rw [show i + 1 - i = 1 by omega] at this
       exact this
     ·rw [if_neg h92]
      refine (jS (v := (i : Int)) (fun j => ?_)).trans ?_
      ·refine iF (dF (by omega)) rfl
      ·have := step i (c :: r) (by omega) hc (Nat.le_refl _) (by omega)
       rw [show i - i + shwN (c :: r) = shwN (c :: r) by omega] at this
       exact this
  ·rw [dnil hi]
   refine (jS (v := (false, (i : Int))) (fun j => ?_)).trans ?_
   ·simp (disch := omega) only [↓reduceIte, ↓jn, gsL]
   ·refine iF rfl ?_
    refine iT (by first | (simp (disch := omega) only [↓reduceIte, ↓jn, gsL]; done) | rfl) ?_
    rfl
theorem rquoted_at {k : Nat} {s : List Nat} (hk : s.length + 6 ≤ k) (hs : By s) (hl : Sz s) {a q : Nat} {t : List Nat} (hq : s.drop a = q :: t) (hq2 : q = 39 ∨ q = 34) : g26 k s (a : Int) = some ((qtdN (s.drop a) : Nat) : Int) := by
 have tl := drop_len hq
 have hl' := hl
 unfold Sz at hl
 unfold g26
 rw [fw_s (by omega)]
 refine (rquoted_l (k := k) (by omega) hs hl' hq hq2 t.length k (a + 1) (by omega) (by omega) (by omega) (by omega)).trans (sn ?_)
 rw [drop_step hq, hq, show a + 1 - a = 1 by omega]
 rfl
theorem rchar_at {k : Nat} (hk : 10 ≤ k) {s : List Nat} (hs : By s) (hl : Sz s) {a q : Nat} {t : List Nat} (hq : s.drop a = q :: t) : g27 k s (a : Int) = some ((chrN (s.drop a) : Nat) : Int) := by
 have tl := drop_len hq
 have dt := drop_step hq
 have hl' := hl
 unfold Sz at hl
 unfold g27
 rw [hq]
 cases t with
 | nil =>
  simp only [List.length_nil] at tl
  refine (jS (v := false) (fun j => ?_)).trans ?_
  ·simp (disch := omega) only [↓reduceIte, ↓jn, gsL]
  ·refine iF rfl ?_
   have nx := rnext_at (k := k) (by omega) hs hl' (a + 1)
   rw [dt] at nx
   rw [fw_s (by omega)]
   refine bS (by (try simp (disch := omega) only [fwI]); exact nx) ?_
   rfl
 | cons c r =>
  simp only [List.length_cons] at tl
  have c256 := hs c (drop_mem dt)
  have n1 : nthS s ((a + 1 : Nat) : Int) = some (c : Int) := nthX rfl dt
  rw [fw_s (by omega)]
  simp only [chrN]
  by_cases h92 : c = 92
  ·rw [if_pos h92]
   refine (jS (v := true) (fun j => ?_)).trans ?_
   ·refine iT (by first | (simp (disch := omega) only [↓reduceIte, ↓jn, gsL]; done) | rfl) ?_
    refine bS (by (try simp (disch := omega) only [fwI]); exact n1) ?_
    rw [dT (by omega)]
   ·refine iT rfl ?_
    have ea := rescape_at hk hs hl' (a + 1)
    rw [dt] at ea
    refine bS (by (try simp (disch := omega) only [fwI]); exact ea) ?_
    rcases escN_cases (c :: r) with h | ⟨v, n, h, h2, h3⟩
    ·rw [h]; rfl
    ·rw [h]
     simp only [List.length_cons] at h3
     have : (0 : Int) < ((n : Nat) : Int) := by omega
     simp only []
     rw [if_pos this]
     refine iT (dT (by omega)) ?_
     rw [fw_s (by omega), Int.toNat_natCast]
  ·rw [if_neg h92]
   refine (jS (v := false) (fun j => ?_)).trans ?_
   ·refine iT (by first | (simp (disch := omega) only [↓reduceIte, ↓jn, gsL]; done) | rfl) ?_
    refine bS (by (try simp (disch := omega) only [fwI]); exact n1) ?_
    rw [dF (by omega)]
   ·refine iF rfl ?_
    have nx := rnext_at (k := k) (by omega) hs hl' (a + 1)
    rw [dt] at nx
    refine bS (by (try simp (disch := omega) only [fwI]); exact nx) ?_
    by_cases h : (dec (c :: r)).1 ≤ 32 ∨ (dec (c :: r)).1 = 127
    ·have : ¬ (shwN (c :: r) ≠ 0 ∧ c ≠ 32) := by
      rintro ⟨h1, h2⟩
      apply h1
      unfold shwN
      rw [if_pos]
      by_cases h3 : c < 128
      ·rw [dec_ascii r h3] at h ⊢
       simp only [] at h ⊢
       omega
      ·rcases dec_big r h3 with h4 | h4 <;> omega
     rw [if_neg this]
     refine (jS (v := true) (fun j => ?_)).trans rfl
     by_cases h1 : (dec (c :: r)).1 ≤ 32
     ·refine iT (dT h1) rfl
     ·refine iF (dF h1) ?_
      rw [dT (by omega)]
    ·obtain ⟨n, n1', n2, n3, n4, -⟩ := dec_size (s := c :: r) (by simp)
     have sw : shwN (c :: r) = n := by unfold shwN; rw [if_neg (by omega), n1', Int.toNat_natCast]
     have c32 : c ≠ 32 := by
      intro e; subst e
      rw [dec_ascii r (by decide)] at h
      exact h (.inl (by decide))
     rw [sw, if_pos (show n ≠ 0 ∧ c ≠ 32 from ⟨by clear n1'; omega, c32⟩), n1']
     simp only [List.length_cons] at n4
     refine (jS (v := false) (fun j => ?_)).trans ?_
     ·refine iF (dF (by omega)) ?_
      rw [dF (by omega)]
     ·refine iF rfl ?_
      clear n1' nx
      rw [fw_s (by omega)]
end Go.Proofs.Ytokcjgjgojlhbaa.Am
set_option maxRecDepth 100000
set_option linter.unusedVariables false
set_option linter.unusedSimpArgs false
namespace Go.Proofs.Ytokcjgjgojlhbaa.Am
open Go
theorem run_no35 {b : Nat} (hb : b ≤ 99) : ∀ (p : Bool) (s : List Nat), 35 ∉ s.take (runN b p s)
 | _, [], h => by simp at h
 | p, c :: r, h => by
  simp only [runN] at h
  split at h
  ·rename_i hc
   rw [List.take_succ_cons] at h
   rcases List.mem_cons.1 h with e | e
   ·subst e
    have : dgN 35 = 99 := by decide
    omega
   ·exact run_no35 hb true r e
  ·split at h
   ·rename_i hc hp
    rw [List.take_succ_cons] at h
    rcases List.mem_cons.1 h with e | e
    ·subst e
     simp at hp
    ·exact run_no35 hb false r e
   ·simp at h
theorem front_35 {s : List Nat} (h : (frontN s).1 ≠ 0) : ∃ m r, (frontN s).1 = m + 1 ∧ s.drop m = 35 :: r ∧ runN 10 false s = m := by
 have d35 : ¬ dgN 35 < 10 := by decide
 revert h
 unfold frontN
 split
 ·rename_i a b r
  split
  ·rename_i ha
   split
   ·rename_i hb
    subst hb
    split
    ·intro _
     refine ⟨1, r, rfl, rfl, ?_⟩
     simp [runN, ha, d35]
    ·intro h; exact absurd rfl h
   ·split
    ·rename_i hb
     split
     ·rename_i c r'
      split
      ·rename_i hc
       obtain ⟨rfl, -⟩ := hc
       intro _
       refine ⟨2, r', rfl, rfl, ?_⟩
       simp [runN, ha, hb, d35]
      ·intro h; exact absurd rfl h
     ·intro h; exact absurd rfl h
    ·intro h; exact absurd rfl h
  ·intro h; exact absurd rfl h
 ·intro h; exact absurd rfl h
theorem hash_iff (s : List Nat) : (35 ∈ s.take (wholeN s)) ↔ ¬ ((frontN s).1 = 0 ∨ wholeN s < (frontN s).1) := by
 by_cases h : 0 < (frontN s).1 ∧ 0 < runN (frontN s).2 false (s.drop (frontN s).1)
 ·have hw : wholeN s = (frontN s).1 + runN (frontN s).2 false (s.drop (frontN s).1) := by unfold wholeN; rw [if_pos h]
  obtain ⟨m, r, h1, h2, -⟩ := front_35 (s := s) (by omega)
  constructor
  ·intro _; omega
  ·intro _
   rw [hw, h1]
   have dl := drop_len h2
   have : s.take (m + 1 + runN (frontN s).2 false (s.drop (m + 1))) = s.take m ++ (35 :: r.take (runN (frontN s).2 false (s.drop (m + 1)))) := by
    rw [Nat.add_assoc, List.take_add, h2, Nat.add_comm 1, List.take_succ_cons]
   rw [this]
   simp
 ·have hw : wholeN s = runN 10 false s := by unfold wholeN; rw [if_neg h]
  rw [hw]
  constructor
  ·intro hm; exact absurd hm (run_no35 (by decide) false s)
  ·intro hn
   exfalso
   apply hn
   by_cases h0 : (frontN s).1 = 0
   ·exact .inl h0
   ·right
    obtain ⟨m, r, h1, h2, h3⟩ := front_35 h0
    omega
theorem rnum_l (k : Nat) {s : List Nat} (hl : Sz s) (c11 : Unit → Option (S28 × Int)) {a w : Nat} (ha : a + w ≤ s.length) (kind : Int) : ∀ (f i : Nat) (b : Bool), a + w < i + f → i ≤ a + w →
 g23_l9 k c11 s (a : Int) (kind, (w : Int)) f b (i : Int) = if b = true ∨ 35 ∈ (s.drop i).take (a + w - i) then c11 () else some (tok0, 4)
 | 0, i, b, h, h2 => by omega
 | f + 1, i, b, h, h2 => by
  have hl' := hl
  unfold Sz at hl
  rw [g23_l9_s]
  show (if decide ((i : Int) < fwrap .i64 ((a : Int) + (w : Int))) then _ else _) = _
  rw [fw_a (by omega) (by omega)]
  rcases Nat.lt_or_ge i (a + w) with hi | hi
  ·obtain ⟨c, r, hc, hr, hm, hrl⟩ := dcons (s := s) (i := i) (by omega)
   have nc := nthX (x := (i : Int)) rfl hc
   refine iT (dT (by omega)) ?_
   have ih := rnum_l k hl' c11 ha kind f (i + 1) (b || decide (c = 35)) (by omega) (by omega)
   refine (jS (v := (b || decide (c = 35), (i : Int))) (fun j => ?_)).trans ?_
   ·cases b with
    | true => rfl
    | false =>
     refine iF rfl ?_
     refine bS (by (try simp (disch := omega) only [fwI]); exact nc) ?_
     congr 2
     rw [Bool.eq_iff_iff]; simp; omega
   ·show g23_l9 k c11 s (a : Int) (kind, (w : Int)) f (b || decide (c = 35)) (fwrap .i64 ((i : Int) + 1)) = _
    rw [fw_s (by omega)]
    refine ih.trans ?_
    rw [hr, hc, show a + w - i = (a + w - (i + 1)) + 1 by omega, List.take_succ_cons]
    have : ((b || decide (c = 35)) = true ∨ 35 ∈ r.take (a + w - (i + 1))) ↔ (b = true ∨ 35 ∈ c :: r.take (a + w - (i + 1))) := by
     rw [List.mem_cons, Bool.or_eq_true, decide_eq_true_eq]
     constructor
     ·rintro ((h | h) | h)
      ·exact .inl h
      ·exact .inr (.inl h.symm)
      ·exact .inr (.inr h)
     ·rintro (h | h | h)
      ·exact .inl (.inl h)
      ·exact .inl (.inr h.symm)
      ·exact .inr h
    simp only [this]
  ·refine iF (dF (by omega)) ?_
   rw [show a + w - i = 0 by omega, List.take_zero]
   cases b <;> simp <;> rfl
theorem rnumber_at {k : Nat} {s : List Nat} (hk : s.length + 4 < k) (hs : By s) (hl : Sz s) {a : Nat} (ha : a ≤ s.length) : g23 k s (a : Int) = some (if (numN (s.drop a)).1 = 0 then (tok0, 4) else (mkTok s ((numN (s.drop a)).2, a, (numN (s.drop a)).1), 0)) := by
 have hl' := hl
 unfold Sz at hl
 unfold g23
 refine bS (by (try simp (disch := omega) only [fwI]); exact rbroken_at (by omega) hs hl' ha) ?_
 have pl := partN_le (s.drop a)
 have wl := wholeN_le (s.drop a)
 rw [List.length_drop] at pl wl
 have hi := hash_iff (s.drop a)
 have key : ∀ (n kind : Nat), n ≤ s.length - a → (kind = 4 ∧ n ≠ 0 ∨ kind = 3 ∧ n = wholeN (s.drop a)) →
  (jn (fun (z7 : Bool) => if z7 then (some ((⟨(0 : Int), ([] : List Nat), (0 : Int)⟩ : S28), (4 : Int))) else (jn (fun (z8 : Bool) => jn (fun (z11 : Unit) => (subL s (some (a : Int)) (some (fwrap .i64 ((a : Int) + (n : Int))))).bind fun x4_4 => some ((⟨(kind : Int), x4_4, (a : Int)⟩ : S28), (0 : Int))) (fun j11 => if z8 then (g23_l9 k j11 s (a : Int) ((kind : Int), (n : Int)) k false (a : Int)) else (j11 ()))) (fun j8 => if (decide ((kind : Int) = 3)) then (if (decide (fwrap .i64 ((a : Int) + (n : Int)) < (s.length : Int))) then ((nthS s (fwrap .i64 ((a : Int) + (n : Int)))).bind fun x3_11 => j8 (decide (x3_11 = 35))) else (j8 false)) else (j8 false)))) (fun j7 => if (decide ((n : Int) = 0)) then (j7 true) else (if (decide (fwrap .i64 ((a : Int) + (n : Int)) < (s.length : Int))) then ((nthS s (fwrap .i64 ((a : Int) + (n : Int)))).bind fun x2_10 => (g45 k x2_10).bind fun x2_11 => j7 x2_11) else (j7 false))))
  = some (if (if kind = 3 ∧ hashN (s.drop a) n = true then (0, 0) else endN (s.drop a) n kind).1 = 0 then (tok0, 4) else (mkTok s ((if kind = 3 ∧ hashN (s.drop a) n = true then (0, 0) else endN (s.drop a) n kind).2, a, (if kind = 3 ∧ hashN (s.drop a) n = true then (0, 0) else endN (s.drop a) n kind).1), 0)) := by
  intro n kind hn hkind
  rw [fw_a (n := a) (m := n) (by omega) (by omega)]
  have out : (subL s (some (a : Int)) (some ((a + n : Nat) : Int))).bind (fun x4_4 => some ((⟨(kind : Int), x4_4, (a : Int)⟩ : S28), (0 : Int))) = some (mkTok s (kind, a, n), 0) := by
   refine bS (by (try simp (disch := omega) only [fwI]); exact subMid (s := s) (i := a) (j := a + n) rfl rfl (by omega) (by omega)) ?_
   rw [List.drop_take, Nat.add_sub_cancel_left]; rfl
  by_cases h0 : n = 0
  ·subst h0
   refine (jS (v := true) (fun j => rfl)).trans ?_
   refine iT rfl ?_
   rw [if_pos]
   ·rfl
   ·by_cases hh : kind = 3 ∧ hashN (s.drop a) 0 = true
    ·rw [if_pos hh]
    ·rw [if_neg hh]; unfold endN; split
     ·split <;> rfl
     ·rfl
  ·rcases Nat.lt_or_ge (a + n) s.length with h | h
   ·obtain ⟨c, r, hc, hr, hm, hrl⟩ := dcons h
    have nc := nthX (x := ((a + n : Nat) : Int)) rfl hc
    have hc' : (s.drop a).drop n = c :: r := by rw [List.drop_drop]; exact hc
    refine (jS (v := inrN c) (fun j => ?_)).trans ?_
    ·refine iF (dF (by omega)) ?_
     refine iT (dT (by omega)) ?_
     refine bS (by (try simp (disch := omega) only [fwI]); exact nc) ?_
     refine bS (by (try simp (disch := omega) only [fwI]); exact inner_at45 k (hs c hm)) ?_
     rfl
    ·cases hin : inrN c with
     | true =>
      refine iT rfl ?_
      rw [if_pos]
      ·rfl
      ·by_cases hh : kind = 3 ∧ hashN (s.drop a) n = true
       ·rw [if_pos hh]
       ·rw [if_neg hh]; unfold endN; rw [hc']; simp only [hin, if_true]
     | false =>
      refine iF rfl ?_
      have he : endN (s.drop a) n kind = (n, kind) := by unfold endN; rw [hc']; simp only [hin, Bool.false_eq_true, if_false]
      rw [he]
      by_cases h35 : kind = 3 ∧ c = 35
      ·obtain ⟨rfl, rfl⟩ := h35
       have hw : n = wholeN (s.drop a) := by
        rcases hkind with h | h
        ·omega
        ·exact h.2
       refine (jS (v := true) (fun j => ?_)).trans ?_
       ·refine iT rfl ?_
        refine iT (dT (by omega)) ?_
        refine bS (by (try simp (disch := omega) only [fwI]); exact nc) ?_
        rfl
       ·have hh : hashN (s.drop a) n = decide ((frontN (s.drop a)).1 = 0 ∨ n < (frontN (s.drop a)).1) := by
         unfold hashN; rw [hc']; rw [Bool.eq_iff_iff]; simp
        rw [← hw] at hi
        have lp := fun c11 => rnum_l k hl' c11 (a := a) (w := n) (by omega) 3 k a false (by omega) (by omega)
        rw [show a + n - a = n by omega] at lp
        by_cases hb : 35 ∈ (s.drop a).take n
        ·have : hashN (s.drop a) n = false := by rw [hh]; exact decide_eq_false (hi.1 hb)
         rw [this]
         refine (jS (v := ()) (fun j => ?_)).trans ?_
         ·refine iT rfl ?_
          refine (lp j).trans ?_
          rw [if_pos (.inr hb)]
         ·refine out.trans ?_
          simp only [Bool.false_eq_true, and_false, if_false]
          rw [if_neg h0]
        ·have : hashN (s.drop a) n = true := by
          rw [hh]; refine decide_eq_true ?_
          by_cases h1 : (frontN (s.drop a)).1 = 0 ∨ n < (frontN (s.drop a)).1
          ·exact h1
          ·exact absurd (hi.2 h1) hb
         rw [this]
         refine jC fun j => ?_
         refine iT rfl ?_
         refine (lp j).trans ?_
         rw [if_neg (by rintro (h | h); exact absurd h (by decide); exact hb h)]
         rfl
      ·have hnh : ¬ (kind = 3 ∧ hashN (s.drop a) n = true) := by
        rintro ⟨h1, h2⟩
        unfold hashN at h2
        rw [hc'] at h2
        simp only [Bool.and_eq_true, decide_eq_true_eq] at h2
        exact h35 ⟨h1, h2.1⟩
       rw [if_neg hnh]
       refine (jS (v := false) (fun j => ?_)).trans ?_
       ·rcases hkind with ⟨rfl, -⟩ | ⟨rfl, -⟩
        ·rfl
        ·refine iT rfl ?_
         refine iT (dT (by omega)) ?_
         refine bS (by (try simp (disch := omega) only [fwI]); exact nc) ?_
         rw [dF (by omega)]
       ·refine (jS (v := ()) (fun j => rfl)).trans ?_
        refine out.trans ?_
        rw [if_neg h0]
   ·have hc' : (s.drop a).drop n = [] := by rw [List.drop_drop]; exact dnil h
    have he : endN (s.drop a) n kind = (n, kind) := by unfold endN; rw [hc']
    have hh : hashN (s.drop a) n = false := by unfold hashN; rw [hc']
    rw [he, hh]
    simp only [Bool.false_eq_true, and_false, if_false]
    rw [if_neg h0]
    refine (jS (v := false) (fun j => ?_)).trans ?_
    ·refine iF (dF (by omega)) ?_
     refine iF (dF (by omega)) rfl
    ·refine iF rfl ?_
     refine (jS (v := false) (fun j => ?_)).trans ?_
     ·rcases hkind with ⟨rfl, -⟩ | ⟨rfl, -⟩
      ·rfl
      ·refine iT rfl ?_
       refine iF (dF (by omega)) rfl
     ·exact (jS (v := ()) (fun j => rfl)).trans out
 unfold numN
 by_cases h0 : partN (s.drop a) = 0
 ·rw [if_pos h0]
  refine (jS (v := ((3 : Int), (wholeN (s.drop a) : Int))) (fun j => ?_)).trans ?_
  ·refine iT (dT (by omega)) ?_
   refine bS (by (try simp (disch := omega) only [fwI]); exact rwhole_at (by omega) (by omega) hs hl' ha) ?_
   rfl
  ·refine (key (wholeN (s.drop a)) 3 wl (.inr ⟨rfl, rfl⟩)).trans ?_
   simp only [true_and]
 ·rw [if_neg h0]
  refine (jS (v := ((4 : Int), (partN (s.drop a) : Int))) (fun j => ?_)).trans ?_
  ·refine iF (dF (by omega)) rfl
  ·refine (key (partN (s.drop a)) 4 pl (.inl ⟨rfl, h0⟩)).trans ?_
   rfl
end Go.Proofs.Ytokcjgjgojlhbaa.Am
set_option maxRecDepth 100000
set_option linter.unusedVariables false
set_option linter.unusedSimpArgs false
namespace Go.Proofs.Ytokcjgjgojlhbaa.Am
open Go
def macB (t : List Nat) : Bool := match t with | c :: _ => decide (begN c = 1 ∨ begN c = 2) | [] => false
theorem begN_le (c : Nat) : begN c ≤ 3 := by
 unfold begN; repeat' split
 all_goals omega
theorem trmN_take (t : List Nat) (n : Nat) : ∀ i, i ≤ n → trmN (t.take n) i = trmN t i
 | 0, _ => rfl
 | i + 1, h => by
  have ih := trmN_take t n i (by omega)
  simp only [trmN, ih]
  rcases Nat.lt_or_ge i t.length with hi | hi
  ·obtain ⟨c, r, hc, hr, hm, hrl⟩ := dcons hi
   rw [hc, List.drop_take, hc, show n - i = (n - i - 1) + 1 by omega, List.take_succ_cons]
  ·rw [dnil hi, dnil (by rw [List.length_take]; omega)]
theorem trmN_pos {c : Nat} {r : List Nat} (h : blkN c = false) : ∀ i, 1 ≤ i → 1 ≤ trmN (c :: r) i
 | 0, h1 => absurd h1 (by decide)
 | i + 1, _ => by
  simp only [trmN]
  cases i with
  | zero => simp only [List.drop_zero, h, Bool.false_eq_true, if_false]; exact Nat.le_refl _
  | succ i =>
   have := trmN_pos (r := r) h (i + 1) (by omega)
   split
   ·split <;> omega
   ·omega
theorem lineN_no10 : ∀ s : List Nat, 10 ∉ s.take (lineN s)
 | [], h => by simp at h
 | c :: r, h => by
  simp only [lineN] at h
  split at h
  ·simp at h
  ·rw [List.take_succ_cons] at h
   rcases List.mem_cons.1 h with e | e
   ·rename_i hc; exact hc e.symm
   ·exact lineN_no10 r e
theorem cmtN_pos (r : List Nat) : 1 ≤ cmtN (37 :: r) := by
 unfold cmtN
 exact trmN_pos (by decide) _ (by simp [lineN])
theorem rtrm_l (k : Nat) {u : List Nat} (hl : Sz u) (h10 : 10 ∉ u) : ∀ (i f : Nat), i < f → i ≤ u.length → g21_l2 k u f (i : Int) = some (u.take (trmN u i))
 | 0, f, hf, hi => by
  obtain ⟨f, rfl⟩ : ∃ f', f = f' + 1 := ⟨f - 1, by omega⟩
  rw [g21_l2_s]
  refine (jS (v := (false, (0 : Int))) (fun j => rfl)).trans ?_
  refine iF rfl ?_
  refine bS (by (try simp (disch := omega) only [fwI]); exact subTo (s := u) (x := (0 : Int)) (i := 0) rfl (Nat.zero_le _)) ?_
  rfl
 | i + 1, f, hf, hi => by
  have hl' := hl
  unfold Sz at hl
  obtain ⟨f, rfl⟩ : ∃ f', f = f' + 1 := ⟨f - 1, by omega⟩
  rw [g21_l2_s]
  obtain ⟨c, r, hc, hr, hm, hrl⟩ := dcons (s := u) (i := i) (by omega)
  have nc := nthX (x := (i : Int)) rfl hc
  have c10 : c ≠ 10 := fun h => h10 (h ▸ hm)
  have ih := rtrm_l k hl' h10 i f (by omega) (by omega)
  rw [fw_p (by omega)]
  refine (jS (v := (blkN c, ((i + 1 : Nat) : Int))) (fun j => ?_)).trans ?_
  ·refine iT (dT (by omega)) ?_
   refine bS (by (try simp (disch := omega) only [fwI]); exact nc) ?_
   unfold blkN
   rw [decide_eq_false c10]
   by_cases h1 : c = 32
   ·refine iT (dT (by omega)) ?_
    rw [decide_eq_true h1]; rfl
   refine iF (dF (by omega)) ?_
   refine bS (by (try simp (disch := omega) only [fwI]); exact nc) ?_
   rw [decide_eq_false h1]
   by_cases h2 : c = 9
   ·refine iT (dT (by omega)) ?_
    rw [decide_eq_true h2]; rfl
   refine iF (dF (by omega)) ?_
   refine bS (by (try simp (disch := omega) only [fwI]); exact nc) ?_
   rw [decide_eq_false h2]
   have : decide ((c : Int) = 13) = decide (c = 13) := by rw [Bool.eq_iff_iff]; simp; omega
   rw [this]; rfl
  ·simp only [trmN, hc]
   cases blkN c with
   | true =>
    refine iT rfl ?_
    show g21_l2 k u f (fwrap .i64 (((i + 1 : Nat) : Int) - 1)) = _
    rw [fw_p (by omega)]
    exact ih
   | false =>
    refine iF rfl ?_
    refine bS (by (try simp (disch := omega) only [fwI]); exact subTo (s := u) (x := ((i + 1 : Nat) : Int)) (i := i + 1) rfl hi) ?_
    rfl
theorem rtrm_at {k : Nat} {u : List Nat} (hk : u.length < k) (hl : Sz u) (h10 : 10 ∉ u) : g21 k u = some (u.take (trmN u u.length)) := rtrm_l k hl h10 u.length k hk (Nat.le_refl _)
theorem rnote_l {k : Nat} {s : List Nat} (hk : s.length < k) (hs : By s) (hl : Sz s) {a : Nat} {t : List Nat} (ha : s.drop a = 37 :: t) : ∀ (f i : Nat), s.length < i + f → i ≤ s.length → i + lineN (s.drop i) = a + lineN (s.drop a) → a ≤ i → g15_l18 k s (a : Int) f (i : Int) = some (mkTok s (11, a, cmtN (s.drop a)), 0)
 | 0, i, h, h2, h3, h4 => by omega
 | f + 1, i, h, h2, h3, h4 => by
  have hl' := hl
  unfold Sz at hl
  rw [g15_l18_s]
  have fin : i = a + lineN (s.drop a) → (subL s (some (a : Int)) (some (i : Int))).bind (fun x16_3 => (g21 k x16_3).bind fun x16_4 => some ((⟨(11 : Int), x16_4, (a : Int)⟩ : S28), (0 : Int))) = some (mkTok s (11, a, cmtN (s.drop a)), 0) := by
   intro hi
   have ll := lineN_le (s.drop a)
   rw [List.length_drop] at ll
   refine bS (by (try simp (disch := omega) only [fwI]); exact subMid (s := s) (i := a) (j := i) rfl rfl h4 h2) ?_
   rw [List.drop_take, show i - a = lineN (s.drop a) by omega]
   have ul : ((s.drop a).take (lineN (s.drop a))).length = lineN (s.drop a) := by rw [List.length_take, List.length_drop]; omega
   refine bS (by (try simp (disch := omega) only [fwI]); exact rtrm_at (k := k) (u := (s.drop a).take (lineN (s.drop a))) (by rw [ul]; omega) (by unfold Sz; rw [ul]; omega) (lineN_no10 _)) ?_
   rw [ul, trmN_take _ _ _ (Nat.le_refl _), List.take_take, Nat.min_eq_left (trmN_le _ _)]
   rfl
  rcases Nat.lt_or_ge i s.length with hi | hi
  ·obtain ⟨c, r, hc, hr, hm, hrl⟩ := dcons hi
   have nc := nthX (x := (i : Int)) rfl hc
   have h3' := h3
   rw [hc] at h3
   simp only [lineN] at h3
   refine (jS (v := (!decide (c = 10), (i : Int))) (fun j => ?_)).trans ?_
   ·refine iT (dT (by omega)) ?_
    refine bS (by (try simp (disch := omega) only [fwI]); exact nc) ?_
    congr 2
    rw [Bool.eq_iff_iff]; simp; omega
   ·by_cases h10 : c = 10
    ·rw [decide_eq_true h10]
     rw [if_pos h10] at h3
     refine iF rfl ?_
     exact fin (by omega)
    ·rw [decide_eq_false h10]
     rw [if_neg h10] at h3
     refine iT rfl ?_
     have e : ∀ _ : Unit, fwrap .i64 ((i : Int) + 1) = ((i + 1 : Nat) : Int) := fun _ => fw_s (by omega)
     have ih := rnote_l hk hs hl' ha f (i + 1) (by omega) (by omega) (by rw [hr]; omega) (by omega)
     show g15_l18 k s (a : Int) f (fwrap .i64 ((i : Int) + 1)) = _
     rw [e ()]
     exact ih
  ·refine (jS (v := (false, (i : Int))) (fun j => ?_)).trans ?_
   ·refine iF (dF (by omega)) rfl
   ·refine iF rfl ?_
    rw [dnil hi] at h3
    exact fin (by simpa [lineN] using h3)
theorem rOne_at {k : Nat} {s : List Nat} (hk : s.length + 40 < k) (hs : By s) (hl : Sz s) {a : Nat} (ha : a < s.length) : g15 k s (a : Int) = some (oneAt s a) := by
 have hl' := hl
 unfold Sz at hl
 unfold g15 oneAt
 refine (jS (v := false) (fun j => by simp (disch := omega) only [↓reduceIte, ↓jn, gsL])).trans ?_
 refine iF rfl ?_
 obtain ⟨c, r, hc, hr, hm, hrl⟩ := dcons ha
 have c256 := hs c hm
 have nc := nthX (x := (a : Int)) rfl hc
 have ol := oneN_le (s.drop a)
 rw [List.length_drop] at ol
 refine bS (by (try simp (disch := omega) only [fwI]); exact nc) ?_
 by_cases h37 : c = 37
 ·subst h37
  refine iT rfl ?_
  have e : oneN (s.drop a) = (cmtN (s.drop a), 11) := by rw [hc]; rfl
  rw [e, if_neg (by rw [hc]; have := cmtN_pos r; show ¬ cmtN (37 :: r) = 0; omega)]
  exact rnote_l (by omega) hs hl' hc k a (by omega) (by omega) rfl (Nat.le_refl _)
 refine iF (dF (by omega)) ?_
 have out : ∀ (n kind : Nat), n ≤ s.length - a → (if decide ((n : Int) = 0) then some (tok0, (4 : Int)) else (subL s (some (a : Int)) (some (fwrap .i64 ((a : Int) + (n : Int))))).bind fun x14_6 => some ((⟨(kind : Int), x14_6, (a : Int)⟩ : S28), (0 : Int))) = some (if n = 0 then (tok0, 4) else (mkTok s (kind, a, n), 0)) := by
  intro n kind hn
  by_cases h0 : n = 0
  ·rw [if_pos h0]
   refine iT (dT (by omega)) rfl
  ·rw [if_neg h0]
   refine iF (dF (by omega)) ?_
   rw [fw_a (by omega) (by omega)]
   refine bS (by (try simp (disch := omega) only [fwI]); exact subMid (s := s) (i := a) (j := a + n) rfl rfl (by omega) (by omega)) ?_
   rw [List.drop_take, Nat.add_sub_cancel_left]; rfl
 have isD : ∀ _ : Unit, (∀ (j : Bool → Option (S28 × Int)), (if (decide ((c : Int) = 46)) then (if (decide (fwrap .i64 ((a : Int) + 1) = (s.length : Int))) then (j true) else ((nthS s (fwrap .i64 ((a : Int) + 1))).bind fun x1_12 => if (decide (x1_12 = 37)) then (j true) else ((g17 k s (fwrap .i64 ((a : Int) + 1))).bind fun x1_19 => j (decide (fwrap .i64 ((a : Int) + 1) < x1_19))))) else (j false)) = j (decide (c = 46) && dotN r)) := by
  intro _ j
  by_cases h46 : c = 46
  ·rw [decide_eq_true h46, Bool.true_and]
   refine iT (dT (by omega)) ?_
   rw [fw_s (by omega)]
   cases r with
   | nil =>
    simp only [List.length_nil] at hrl
    refine iT (dT (by omega)) rfl
   | cons d q =>
    simp only [List.length_cons] at hrl
    have nd := nthX (x := ((a + 1 : Nat) : Int)) rfl hr
    refine iF (dF (by omega)) ?_
    refine bS (by (try simp (disch := omega) only [fwI]); exact nd) ?_
    simp only [dotN]
    by_cases h37 : d = 37
    ·refine iT (dT (by omega)) ?_
     rw [decide_eq_true h37, Bool.or_true]
    ·refine iF (dF (by omega)) ?_
     have rb := rblank_at (k := k) (by omega) hs hl' (a := a + 1) (by omega)
     rw [hr] at rb
     refine bS (by (try simp (disch := omega) only [fwI]); exact rb) ?_
     rw [decide_eq_false h37, Bool.or_false]
     refine congrArg j ?_
     by_cases hb : blkN d = true
     ·have e : skipN (d :: q) = skipN q + 1 := by simp only [skipN, hb, if_true]
      rw [hb]; exact decide_eq_true (by omega)
     ·have e : skipN (d :: q) = 0 := by simp only [skipN, if_neg hb]
      rw [Bool.eq_false_iff.2 hb]; exact decide_eq_false (by omega)
  ·rw [decide_eq_false h46, Bool.false_and]
   refine iF (dF (by omega)) rfl
 have eo : oneN (s.drop a) = if c = 46 ∧ dotN r = true then (1, 10) else if c = 39 then (qtdN (s.drop a), 1) else if c = 34 then (qtdN (s.drop a), 6) else if c = 36 then (chrN (s.drop a), 5) else if c = 63 then (macN (s.drop a), 7)
  else if begN c = 3 then numN (s.drop a) else if begN c = 1 ∨ begN c = 2 then (innN (s.drop a), if rsvN ((s.drop a).take (innN (s.drop a))) then 8 else begN c) else (lngN (s.drop a), 9) := by
  rw [hc]; simp only [oneN]; rw [if_neg h37]
 refine (jS (v := decide (c = 46) && dotN r) (fun j => isD () j)).trans ?_
 clear isD
 have il := innN_le (s.drop a)
 rw [List.length_drop] at il
 by_cases h46 : c = 46 ∧ dotN r = true
 ·rw [if_pos h46] at eo
  rw [eo] at ol ⊢
  obtain ⟨h1, h2⟩ := h46
  rw [decide_eq_true h1, h2]
  refine (jS (v := (((10 : Nat) : Int), ((1 : Nat) : Int))) (fun j => iT (Bool.and_self true) (congrArg j (Prod.ext rfl rfl)))).trans ?_
  exact out 1 10 ol
 ·rw [if_neg h46] at eo
  have : (decide (c = 46) && dotN r) = false := by
   rw [Bool.and_eq_false_iff]
   by_cases h : c = 46
   ·right
    cases hd : dotN r with
    | true => exact absurd ⟨h, hd⟩ h46
    | false => rfl
   ·left; exact decide_eq_false h
  rw [this]
  have bg := begins_at22 k c256
  have nodig : (c = 39 ∨ c = 34 ∨ c = 36 ∨ c = 63) → begN c = 0 := by rintro (rfl | rfl | rfl | rfl) <;> decide
  by_cases h39 : c = 39
  ·rw [if_pos h39] at eo
   rw [eo] at ol ⊢
   subst h39
   refine (jS (v := (((1 : Nat) : Int), (qtdN (s.drop a) : Int))) (fun j => ?_)).trans ?_
   ·refine iF rfl ?_
    refine bS (by (try simp (disch := omega) only [fwI]); exact bg) ?_
    refine iF rfl ?_
    refine bS (by (try simp (disch := omega) only [fwI]); exact bg) ?_
    refine iF rfl ?_
    refine iT rfl ?_
    refine bS (by (try simp (disch := omega) only [fwI]); exact rquoted_at (by omega) hs hl' hc (.inl rfl)) ?_
    rfl
   ·exact out _ 1 ol
  rw [if_neg h39] at eo
  by_cases h34 : c = 34
  ·rw [if_pos h34] at eo
   rw [eo] at ol ⊢
   subst h34
   refine (jS (v := (((6 : Nat) : Int), (qtdN (s.drop a) : Int))) (fun j => ?_)).trans ?_
   ·refine iF rfl ?_
    refine bS (by (try simp (disch := omega) only [fwI]); exact bg) ?_
    refine iF rfl ?_
    refine bS (by (try simp (disch := omega) only [fwI]); exact bg) ?_
    refine iF rfl ?_
    refine iF rfl ?_
    refine iT rfl ?_
    refine bS (by (try simp (disch := omega) only [fwI]); exact rquoted_at (by omega) hs hl' hc (.inr rfl)) ?_
    rfl
   ·exact out _ 6 ol
  rw [if_neg h34] at eo
  by_cases h36 : c = 36
  ·rw [if_pos h36] at eo
   rw [eo] at ol ⊢
   subst h36
   refine (jS (v := (((5 : Nat) : Int), (chrN (s.drop a) : Int))) (fun j => ?_)).trans ?_
   ·refine iF rfl ?_
    refine bS (by (try simp (disch := omega) only [fwI]); exact bg) ?_
    refine iF rfl ?_
    refine bS (by (try simp (disch := omega) only [fwI]); exact bg) ?_
    refine iF rfl ?_
    refine iF rfl ?_
    refine iF rfl ?_
    refine iT rfl ?_
    refine bS (by (try simp (disch := omega) only [fwI]); exact rchar_at (by omega) hs hl' hc) ?_
    rfl
   ·exact out _ 5 ol
  rw [if_neg h36] at eo
  by_cases h63 : c = 63
  ·rw [if_pos h63] at eo
   rw [eo] at ol ⊢
   subst h63
   have mac : ∀ (n : Nat) (t : List Nat) (j : Int × Int → Option (S28 × Int)), a + n ≤ s.length → s.drop (a + n) = t →
    jn (fun (z23 : Bool) => if z23 then ((g24 k s ((a + n : Nat) : Int)).bind fun x13_2 => j (7, fwrap .i64 (x13_2 - (a : Int)))) else (j (0, 0))) (fun j23 => if (decide (((a + n : Nat) : Int) < (s.length : Int))) then ((nthS s ((a + n : Nat) : Int)).bind fun x12_7 => (g28 k x12_7).bind fun x12_8 => if x12_8 then (j23 true) else ((nthS s ((a + n : Nat) : Int)).bind fun x12_12 => j23 (decide (x12_12 = 95)))) else (j23 false)) = j (if macB t then (7, (mac1 n t : Int)) else (0, 0)) := by
    intro n t j hn ht
    rcases Nat.lt_or_ge (a + n) s.length with h | h
    ·obtain ⟨d, q, hd, hq, hdm, hql⟩ := dcons h
     rw [ht] at hd
     subst hd
     have nd := nthX (x := ((a + n : Nat) : Int)) rfl ht
     have lt := letter_at k (hs d hdm)
     have lb : (letN d || decide (d = 95)) = decide (begN d = 1 ∨ begN d = 2) := by
      have w := byteAll (f := fun d => (letN d || decide (d = 95)) == decide (begN d = 1 ∨ begN d = 2)) (by decide +kernel) (hs d hdm)
      exact eq_of_beq w
     refine (jS (v := decide (begN d = 1 ∨ begN d = 2)) (fun j23 => ?_)).trans ?_
     ·refine iT (dT (by omega)) ?_
      refine bS (by (try simp (disch := omega) only [fwI]); exact nd) ?_
      refine bS (by (try simp (disch := omega) only [fwI]); exact lt) ?_
      rw [← lb]
      cases letN d with
      | true => rfl
      | false =>
       refine iF rfl ?_
       refine bS (by (try simp (disch := omega) only [fwI]); exact nd) ?_
       rw [Bool.false_or]
       refine congrArg j23 ?_
       rw [Bool.eq_iff_iff]; simp; omega
     ·by_cases hb : begN d = 1 ∨ begN d = 2
      ·have mb : macB (d :: q) = true := decide_eq_true hb
       rw [decide_eq_true hb, mb]
       refine iT rfl ?_
       have ri := rinner_at (k := k) (by omega) hs hl' (a := a + n) hn
       rw [ht] at ri
       refine bS (by (try simp (disch := omega) only [fwI]); exact ri) ?_
       have il := innN_le (d :: q)
       simp only [List.length_cons] at il
       rw [fwI (by omega) (by omega)]
       simp only [mac1, if_pos hb, if_true]
       refine congrArg j (Prod.ext rfl ?_)
       show ((_ : Nat) : Int) - (a : Int) = ((_ : Nat) : Int)
       omega
      ·have mb : macB (d :: q) = false := decide_eq_false hb
       rw [decide_eq_false hb, mb]
       rfl
    ·rw [dnil h] at ht
     subst ht
     refine (jS (v := false) (fun j23 => ?_)).trans ?_
     ·refine iF (dF (by omega)) rfl
     ·rfl
   have fin : ∀ (n : Nat) (t : List Nat) (X : (Int × Int → Option (S28 × Int)) → Option (S28 × Int)), macN (s.drop a) = mac1 n t → (∀ j, X j = j (if macB t then (7, (mac1 n t : Int)) else (0, 0))) →
    jn (fun (z20 : Int × Int) => if (decide (z20.2 = 0)) then (some ((⟨(0 : Int), ([] : List Nat), (0 : Int)⟩ : S28), (4 : Int))) else ((subL s (some (a : Int)) (some (fwrap .i64 ((a : Int) + z20.2)))).bind fun x14_6 => some ((⟨z20.1, x14_6, (a : Int)⟩ : S28), (0 : Int)))) X = some (if (macN (s.drop a), 7).1 = 0 then (tok0, 4) else (mkTok s ((macN (s.drop a), 7).2, a, (macN (s.drop a), 7).1), 0)) := by
    intro n t X hm hX
    rw [hm] at ol ⊢
    cases h : macB t with
    | false =>
     rw [h] at hX
     have m0 : mac1 n t = 0 := by
      cases t with
      | nil => rfl
      | cons d q => simp only [mac1, if_neg (of_decide_eq_false h)]
     refine (jS hX).trans ?_
     rw [m0]; rfl
    | true =>
     rw [h] at hX
     refine (jS hX).trans ?_
     exact out _ 7 ol
   cases r with
   | nil =>
    simp only [List.length_nil] at hrl
    refine fin 1 [] _ (by rw [hc]; rfl) (fun j => ?_)
    refine iF rfl ?_
    refine bS (by (try simp (disch := omega) only [fwI]); exact bg) ?_
    refine iF rfl ?_
    refine bS (by (try simp (disch := omega) only [fwI]); exact bg) ?_
    refine iF rfl ?_
    refine iF rfl ?_
    refine iF rfl ?_
    refine iF rfl ?_
    refine iT rfl ?_
    refine (jS (v := false) (fun j => ?_)).trans ?_
    ·refine iF (dF (by rw [fw_s (by omega)]; omega)) rfl
    ·refine (jS (v := ((a + 1 : Nat) : Int)) (fun j => ?_)).trans ?_
     ·refine iF rfl ?_
      rw [fw_s (by omega)]
     ·exact mac 1 [] j (by omega) hr
   | cons d q =>
    simp only [List.length_cons] at hrl
    have nd := nthX (x := ((a + 1 : Nat) : Int)) rfl hr
    by_cases hd : d = 63
    ·refine fin 2 q _ (by rw [hc]; simp only [macN, hd, if_true]) (fun j => ?_)
     refine iF rfl ?_
     refine bS (by (try simp (disch := omega) only [fwI]); exact bg) ?_
     refine iF rfl ?_
     refine bS (by (try simp (disch := omega) only [fwI]); exact bg) ?_
     refine iF rfl ?_
     refine iF rfl ?_
     refine iF rfl ?_
     refine iF rfl ?_
     refine iT rfl ?_
     refine (jS (v := true) (fun j => ?_)).trans ?_
     ·rw [fw_s (by omega)]
      refine iT (dT (by omega)) ?_
      refine bS (by (try simp (disch := omega) only [fwI]); exact nd) ?_
      rw [dT (by omega)]
     ·refine (jS (v := ((a + 2 : Nat) : Int)) (fun j => ?_)).trans ?_
      ·refine iT rfl ?_
       rw [fw_s (by omega), fw_s (by omega)]
      ·exact mac 2 q j (by omega) (drop_step hr)
    ·refine fin 1 (d :: q) _ (by rw [hc]; simp only [macN, hd, if_false]) (fun j => ?_)
     refine iF rfl ?_
     refine bS (by (try simp (disch := omega) only [fwI]); exact bg) ?_
     refine iF rfl ?_
     refine bS (by (try simp (disch := omega) only [fwI]); exact bg) ?_
     refine iF rfl ?_
     refine iF rfl ?_
     refine iF rfl ?_
     refine iF rfl ?_
     refine iT rfl ?_
     refine (jS (v := false) (fun j => ?_)).trans ?_
     ·rw [fw_s (by omega)]
      refine iT (dT (by omega)) ?_
      refine bS (by (try simp (disch := omega) only [fwI]); exact nd) ?_
      rw [dF (by omega)]
     ·refine (jS (v := ((a + 1 : Nat) : Int)) (fun j => ?_)).trans ?_
      ·refine iF rfl ?_
       rw [fw_s (by omega)]
      ·exact mac 1 (d :: q) j (by omega) hr
  rw [if_neg h63] at eo
  by_cases h3 : begN c = 3
  ·rw [if_pos h3] at eo
   rw [eo] at ol ⊢
   refine jC fun j => ?_
   refine iF rfl ?_
   refine bS (by (try simp (disch := omega) only [fwI]); exact bg) ?_
   refine iT (dT (by omega)) ?_
   refine bS (by (try simp (disch := omega) only [fwI]); exact rnumber_at (by omega) hs hl' (a := a) (by omega)) ?_
   by_cases h0 : (numN (s.drop a)).1 = 0
   ·rw [if_pos h0]
   ·rw [if_neg h0]
  rw [if_neg h3] at eo
  by_cases h12 : begN c = 1 ∨ begN c = 2
  ·rw [if_pos h12] at eo
   rw [eo] at ol ⊢
   refine (jS (v := (((if rsvN ((s.drop a).take (innN (s.drop a))) then 8 else begN c : Nat) : Int), (innN (s.drop a) : Int))) (fun j => ?_)).trans ?_
   ·refine iF rfl ?_
    refine bS (by (try simp (disch := omega) only [fwI]); exact bg) ?_
    refine iF (dF (by omega)) ?_
    refine bS (by (try simp (disch := omega) only [fwI]); exact bg) ?_
    refine iT (dT (by omega)) ?_
    refine bS (by (try simp (disch := omega) only [fwI]); exact bg) ?_
    refine bS (by (try simp (disch := omega) only [fwI]); exact rinner_at (k := k) (by omega) hs hl' (a := a) (by omega)) ?_
    rw [fw_d (n := a + innN (s.drop a)) (m := a) (by omega) (by omega), Nat.add_sub_cancel_left, fw_a (by omega) (by omega)]
    refine bS (by (try simp (disch := omega) only [fwI]); exact subMid (s := s) (i := a) (j := a + innN (s.drop a)) rfl rfl (by omega) (by omega)) ?_
    rw [List.drop_take, Nat.add_sub_cancel_left]
    refine bS (by (try simp (disch := omega) only [fwI]); exact rreserved_at (by omega) _) ?_
    cases rsvN ((s.drop a).take (innN (s.drop a))) <;> rfl
   ·exact out _ _ il
  ·rw [if_neg h12] at eo
   rw [eo] at ol ⊢
   refine (jS (v := (((9 : Nat) : Int), (lngN (s.drop a) : Int))) (fun j => ?_)).trans ?_
   ·refine iF rfl ?_
    refine bS (by (try simp (disch := omega) only [fwI]); exact bg) ?_
    refine iF (dF (by omega)) ?_
    refine bS (by (try simp (disch := omega) only [fwI]); exact bg) ?_
    refine iF (dF (by have := begN_le c; omega)) ?_
    refine iF (dF (by omega)) ?_
    refine iF (dF (by omega)) ?_
    refine iF (dF (by omega)) ?_
    refine iF (dF (by omega)) ?_
    refine bS (by (try simp (disch := omega) only [fwI]); exact rlongest_at (k := k) (by omega) hl' (a := a) (by omega)) ?_
    rfl
   ·exact out _ 9 ol
theorem rOne_out {k : Nat} {s : List Nat} {a : Int} (h : a < 0 ∨ (s.length : Int) ≤ a) : g15 k s a = some (tok0, 4) := by
 unfold g15
 refine (jS (v := true) (fun j => ?_)).trans rfl
 rcases h with h | h
 ·refine iT (dT h) rfl
 ·by_cases h1 : a < 0
  ·refine iT (dT h1) rfl
  ·refine iF (dF h1) ?_
   rw [dT h]
end Go.Proofs.Ytokcjgjgojlhbaa.Am
set_option maxRecDepth 100000
set_option linter.unusedVariables false
set_option linter.unusedSimpArgs false
namespace Go.Proofs.Ytokcjgjgojlhbaa.Am
open Go
theorem rscan_l (k : Nat) {s : List Nat} (hk : s.length + 40 < k) (hs : By s) (hl : Sz s) (h16 : s.length ≤ 65536) : ∀ (d f a : Nat) (acc : List S28), s.length < a + d → d < f → a ≤ s.length → acc.length ≤ a → g12_l5 k s f ((a + skipN (s.drop a) : Nat) : Int) acc = some (match toksN s d a with | some l => (acc ++ l.map (mkTok s), 0) | none => ([], 4))
 | 0, f, a, acc, h, hf, ha, hacc => by omega
 | d + 1, f, a, acc, h, hf, ha, hacc => by
  have hl' := hl
  unfold Sz at hl
  obtain ⟨f, rfl⟩ : ∃ f', f = f' + 1 := ⟨f - 1, by omega⟩
  rw [g12_l5_s]
  have sl := skipN_le (s.drop a)
  rw [List.length_drop] at sl
  unfold toksN
  have hab : a ≤ a + skipN (s.drop a) := Nat.le_add_right _ _
  have hbl : a + skipN (s.drop a) ≤ s.length := by omega
  generalize a + skipN (s.drop a) = b at *
  by_cases hb : s.length ≤ b
  ·rw [if_pos hb]
   refine iF (dF (by omega)) ?_
   simp only [List.map_nil, List.append_nil]
  ·rw [if_neg hb]
   refine iT (dT (by omega)) ?_
   refine bS (by (try simp (disch := omega) only [fwI]); exact rOne_at hk hs hl' (a := b) (by omega)) ?_
   have ol := oneN_le (s.drop b)
   rw [List.length_drop] at ol
   unfold oneAt
   by_cases h0 : (oneN (s.drop b)).1 = 0
   ·rw [if_pos h0, if_pos h0]; rfl
   ·rw [if_neg h0, if_neg h0]
    refine iF rfl ?_
    have ap : appS 32 acc [mkTok s ((oneN (s.drop b)).2, b, (oneN (s.drop b)).1)] = some (acc ++ [mkTok s ((oneN (s.drop b)).2, b, (oneN (s.drop b)).1)]) := by
     unfold appS
     rw [if_pos (by simp only [List.length_cons, List.length_nil]; omega)]
    refine bS (by (try simp (disch := omega) only [fwI]); exact ap) ?_
    have tl : ((s.drop b).take (oneN (s.drop b)).1).length = (oneN (s.drop b)).1 := by
     rw [List.length_take, List.length_drop]; omega
    show (g17 k s (fwrap .i64 ((b : Int) + (((s.drop b).take (oneN (s.drop b)).1).length : Int)))).bind _ = _
    rw [tl, fw_a (by omega) (by omega)]
    have hpos : 0 < (oneN (s.drop b)).1 := Nat.pos_of_ne_zero h0
    refine bS (by (try simp (disch := omega) only [fwI]); exact rblank_at (by omega) hs hl' (a := b + (oneN (s.drop b)).1) (by omega)) ?_
    refine (rscan_l k hk hs hl' h16 d f (b + (oneN (s.drop b)).1) _ (by omega) (by omega) (by omega) (by rw [List.length_append]; simp only [List.length_cons, List.length_nil]; omega)).trans ?_
    cases toksN s d (b + (oneN (s.drop b)).1) with
    | none => rfl
    | some l => simp only [Option.map_some, List.map_cons, List.append_assoc, List.singleton_append]
theorem rscan_at {k : Nat} {s : List Nat} (hk : s.length + 40 < k) (hs : By s) (hl : Sz s) : g12 k s = some (scanN s) := by
 have hl' := hl
 unfold Sz at hl
 unfold g12 scanN
 by_cases h16 : 65536 < s.length
 ·rw [if_pos h16]
  refine iT (dT (by omega)) rfl
 ·rw [if_neg h16]
  refine iF (dF (by omega)) ?_
  refine bS (by (try simp (disch := omega) only [fwI]); exact valid_at19 (by omega) hs hl') ?_
  cases hv : vld s.length s with
  | false => rfl
  | true =>
   refine iF rfl ?_
   have rb := rblank_at (k := k) (by omega) hs hl' (a := 0) (by omega)
   refine bS (by (try simp (disch := omega) only [fwI]); exact rb) ?_
   refine (rscan_l k hk hs hl' (by omega) (s.length + 1) k 0 [] (by omega) (by omega) (by omega) (Nat.le_refl _)).trans ?_
   simp only [Bool.true_eq_false, if_false]
   cases toksN s (s.length + 1) 0 <;> rfl
end Go.Proofs.Ytokcjgjgojlhbaa.Am
set_option maxRecDepth 100000
set_option linter.unusedVariables false
namespace Go.Proofs.Ytokcjgjgojlhbaa.Am
noncomputable section
open Go
def X10 : Fx Bool := ⟨Try.prog, cx, Try.f10, fun r => .bool r, 0, fun _ => H0, cxTi, cxOrd⟩
def g10c0 : List Nat := [97, 46, 98, 46, 32, 37, 99, 32, 10]
def g10c1 : List Nat := [49, 46, 53, 101, 51, 120]
def g10p0 : Pt := nav [0] (bodyAt Try.f10)
def g10p1 : Pt := nav [0, 0, 0] g10p0
def g10p2 : Pt := nav [0, 0, 0] g10p1
def g10p3 : Pt := nav [0, 0, 0] g10p2
def g10p4 : Pt := nav [0, 0, 0] g10p3
def g10p5 : Pt := nav [0, 0, 0] g10p4
def g10 (k : Nat)  : Option Bool :=
 (g11 k g10c0).bind fun x0_0 => (g11 k ([39, 97] : List Nat)).bind fun x1_0 => (g11 k ([255] : List Nat)).bind fun x2_0 => (g14 k g10c1 (0 : Int)).bind fun x3_0 => if (decide (x0_0.2 = 0)) then (if (decide ((x0_0.1.length : Int) = 5)) then ((nthL x0_0.1 1).bind fun x4_9 => if (decide (x4_9.f0 = 9)) then ((nthL x0_0.1 3).bind fun x4_16 => if (decide (x4_16.f0 = 10)) then ((nthL x0_0.1 4).bind fun x4_23 => if (decide (x4_23.f0 = 11)) then ((nthL x0_0.1 4).bind fun x4_30 => if (eqL x4_30.f1 [37, 99]) then (if (decide (x1_0.2 = 4)) then (if (decide (x2_0.2 = 2)) then (if (decide (x3_0.2 = 4)) then (if (decide (x3_0.1.f0 = 0)) then ((g16 k ([32, 10, 32, 120] : List Nat) (0 : Int)).bind fun x4_53 => some (decide (x4_53 = 3))) else (some false)) else (some false)) else (some false)) else (some false)) else (some false)) else (some false)) else (some false)) else (some false)) else (some false)) else (some false)
theorem g10_ok (k : Nat)  (r : Bool) (h : g10 k  = some r) : PureOk Try.prog 10 [] (.bool r) := by
 refine pure_of X10 (fun _ => rfl) Try.func10 (by decide +kernel) (by kernel_rfl) (t := g10 k ) ?_ h
 unfold g10
 refine ok_env (env' := []) (by kernel_rfl) ?_
 refine ok_run 6 (p' := (atN 0 (ctl1 g10p1))) (env' := [(0, .bool false)]) (H' := (mkH [])) (by kernel_rfl) ?_
 refine ok_call (fun (x0_0 : ((List S28) × Int)) => .tuple [.vec (x0_0.1).length 3 ((x0_0.1).flatMap e29), .int .i64 x0_0.2]) (atN 1 (ctl1 g10p1)) (fun x0_0 => [(10, .tuple [.vec (x0_0.1).length 3 ((x0_0.1).flatMap e29), .int .i64 x0_0.2]), (0, .bool false)]) (fi := 11) (args := [.str g10c0]) (by kernel_rfl) (by kernel_rfl) (fun _ => by kernel_rfl) (fun r h => g11_ok k g10c0 r h) (fun _ => by kernel_rfl) (fun x0_0 hx0_0 => ?_)
 let E1 : Env := [(2, .int .i64 x0_0.2), (1, .vec (x0_0.1).length 3 ((x0_0.1).flatMap e29)), (12, .int .i64 x0_0.2), (11, .vec (x0_0.1).length 3 ((x0_0.1).flatMap e29)), (9, .tuple [.vec (x0_0.1).length 3 ((x0_0.1).flatMap e29), .int .i64 x0_0.2]), (10, .tuple [.vec (x0_0.1).length 3 ((x0_0.1).flatMap e29), .int .i64 x0_0.2]), (0, .bool false)]
 refine ok_run 8 (p' := (atN 0 (ctl1 g10p2))) (env' := E1) (H' := (mkH [])) (by kernel_rfl) ?_
 refine ok_call (fun (x1_0 : ((List S28) × Int)) => .tuple [.vec (x1_0.1).length 3 ((x1_0.1).flatMap e29), .int .i64 x1_0.2]) (atN 1 (ctl1 g10p2)) (fun x1_0 => ((14, .tuple [.vec (x1_0.1).length 3 ((x1_0.1).flatMap e29), .int .i64 x1_0.2]) :: E1)) (fi := 11) (args := [.str [39, 97]]) (by kernel_rfl) (by kernel_rfl) (fun _ => by kernel_rfl) (fun r h => g11_ok k ([39, 97] : List Nat) r h) (fun _ => by kernel_rfl) (fun x1_0 hx1_0 => ?_)
 let E2 : Env := ((4, .int .i64 x1_0.2) :: (3, .vec (x1_0.1).length 3 ((x1_0.1).flatMap e29)) :: (16, .int .i64 x1_0.2) :: (15, .vec (x1_0.1).length 3 ((x1_0.1).flatMap e29)) :: (13, .tuple [.vec (x1_0.1).length 3 ((x1_0.1).flatMap e29), .int .i64 x1_0.2]) :: (14, .tuple [.vec (x1_0.1).length 3 ((x1_0.1).flatMap e29), .int .i64 x1_0.2]) :: E1)
 refine ok_run 7 (p' := g10p3) (env' := E2) (H' := (mkH [])) (by kernel_rfl) ?_
 refine ok_keep [1, 2, 4] (env' := [(1, .vec (x0_0.1).length 3 ((x0_0.1).flatMap e29)), (2, .int .i64 x0_0.2), (4, .int .i64 x1_0.2)]) (by kernel_rfl) ?_
 refine ok_run 1 (p' := (atN 0 (ctl1 g10p3))) (env' := [(1, .vec (x0_0.1).length 3 ((x0_0.1).flatMap e29)), (2, .int .i64 x0_0.2), (4, .int .i64 x1_0.2)]) (H' := (mkH [])) (by kernel_rfl) ?_
 refine ok_call (fun (x2_0 : ((List S28) × Int)) => .tuple [.vec (x2_0.1).length 3 ((x2_0.1).flatMap e29), .int .i64 x2_0.2]) (atN 1 (ctl1 g10p3)) (fun x2_0 => [(18, .tuple [.vec (x2_0.1).length 3 ((x2_0.1).flatMap e29), .int .i64 x2_0.2]), (1, .vec (x0_0.1).length 3 ((x0_0.1).flatMap e29)), (2, .int .i64 x0_0.2), (4, .int .i64 x1_0.2)]) (fi := 11) (args := [.str [255]]) (by kernel_rfl) (by kernel_rfl) (fun _ => by kernel_rfl) (fun r h => g11_ok k ([255] : List Nat) r h) (fun _ => by kernel_rfl) (fun x2_0 hx2_0 => ?_)
 let E3 : Env := [(6, .int .i64 x2_0.2), (5, .vec (x2_0.1).length 3 ((x2_0.1).flatMap e29)), (20, .int .i64 x2_0.2), (19, .vec (x2_0.1).length 3 ((x2_0.1).flatMap e29)), (17, .tuple [.vec (x2_0.1).length 3 ((x2_0.1).flatMap e29), .int .i64 x2_0.2]), (18, .tuple [.vec (x2_0.1).length 3 ((x2_0.1).flatMap e29), .int .i64 x2_0.2]), (1, .vec (x0_0.1).length 3 ((x0_0.1).flatMap e29)), (2, .int .i64 x0_0.2), (4, .int .i64 x1_0.2)]
 refine ok_run 8 (p' := (atN 0 (ctl1 g10p4))) (env' := E3) (H' := (mkH [])) (by kernel_rfl) ?_
 refine ok_call (fun (x3_0 : (S28 × Int)) => .tuple [.agg [.int .i64 x3_0.1.f0, .str x3_0.1.f1, .int .i64 x3_0.1.f2], .int .i64 x3_0.2]) (atN 1 (ctl1 g10p4)) (fun x3_0 => ((22, .tuple [.agg [.int .i64 x3_0.1.f0, .str x3_0.1.f1, .int .i64 x3_0.1.f2], .int .i64 x3_0.2]) :: E3)) (fi := 14) (args := [.str g10c1, .int .i64 0]) (by kernel_rfl) (by kernel_rfl) (fun _ => by kernel_rfl) (fun r h => g14_ok k g10c1 (0 : Int) r h) (fun _ => by kernel_rfl) (fun x3_0 hx3_0 => ?_)
 let E4 : Env := ((8, .int .i64 x3_0.2) :: (7, .ptr 0 3 0) :: (24, .int .i64 x3_0.2) :: (23, .agg [.int .i64 x3_0.1.f0, .str x3_0.1.f1, .int .i64 x3_0.1.f2]) :: (21, .tuple [.agg [.int .i64 x3_0.1.f0, .str x3_0.1.f1, .int .i64 x3_0.1.f2], .int .i64 x3_0.2]) :: (22, .tuple [.agg [.int .i64 x3_0.1.f0, .str x3_0.1.f1, .int .i64 x3_0.1.f2], .int .i64 x3_0.2]) :: E3)
 refine ok_run 8 (p' := g10p5) (env' := E4) (H' := (mkH [⟨[.int .i64 x3_0.1.f0, .str x3_0.1.f1, .int .i64 x3_0.1.f2], 3, false⟩])) (by kernel_rfl) ?_
 refine ok_keep [1, 2, 4, 6, 7, 8] (env' := [(1, .vec (x0_0.1).length 3 ((x0_0.1).flatMap e29)), (2, .int .i64 x0_0.2), (4, .int .i64 x1_0.2), (6, .int .i64 x2_0.2), (7, .ptr 0 3 0), (8, .int .i64 x3_0.2)]) (by kernel_rfl) ?_
 let E5 : Env := [(27, .bool (decide (x0_0.2 = 0))), (26, .bool (decide (x0_0.2 = 0))), (25, .int .i64 x0_0.2), (1, .vec (x0_0.1).length 3 ((x0_0.1).flatMap e29)), (2, .int .i64 x0_0.2), (4, .int .i64 x1_0.2), (6, .int .i64 x2_0.2), (7, .ptr 0 3 0), (8, .int .i64 x3_0.2)]
 refine ok_run 4 (p' := (atN 3 (ctl1 g10p5))) (env' := E5) (H' := (mkH [⟨[.int .i64 x3_0.1.f0, .str x3_0.1.f1, .int .i64 x3_0.1.f2], 3, false⟩])) (by kernel_rfl) ?_
 refine ok_split 27 (b := decide (x0_0.2 = 0)) (by kernel_rfl) (fun hb => ?_) (fun hb => ?_)
 ·let E6 : Env := ((32, .bool (decide ((x0_0.1.length : Int) = 5))) :: (31, .bool (decide ((x0_0.1.length : Int) = 5))) :: (30, .bool (decide ((x0_0.1.length : Int) = 5))) :: (29, .int .i64 (x0_0.1.length : Int)) :: (28, .vec (x0_0.1).length 3 ((x0_0.1).flatMap e29)) :: (27, .bool true) :: E5)
  refine ok_run 5 (p' := (atN 8 (ctl1 g10p5))) (env' := E6) (H' := (mkH [⟨[.int .i64 x3_0.1.f0, .str x3_0.1.f1, .int .i64 x3_0.1.f2], 3, false⟩])) (by kernel_rfl) ?_
  refine ok_split 32 (b := decide ((x0_0.1.length : Int) = 5)) (by kernel_rfl) (fun hb => ?_) (fun hb => ?_)
  ·refine ok_run 1 (p' := (atN 9 (ctl1 g10p5))) (env' := ((33, .vec (x0_0.1).length 3 ((x0_0.1).flatMap e29)) :: (32, .bool true) :: E6)) (H' := (mkH [⟨[.int .i64 x3_0.1.f0, .str x3_0.1.f1, .int .i64 x3_0.1.f2], 3, false⟩])) (by kernel_rfl) ?_
   refine ok_chk (fun (x4_9 : S28) => (.vptr [.int .i64 x4_9.f0, .str x4_9.f1, .int .i64 x4_9.f2], (mkH [⟨[.int .i64 x3_0.1.f0, .str x3_0.1.f1, .int .i64 x3_0.1.f2], 3, false⟩]))) (atN 10 (ctl1 g10p5)) (fun x4_9 => ((34, .vptr [.int .i64 x4_9.f0, .str x4_9.f1, .int .i64 x4_9.f2]) :: (33, .vec (x0_0.1).length 3 ((x0_0.1).flatMap e29)) :: (32, .bool true) :: E6)) (vidxH (sz := 3) e29_len (by kernel_rfl)) (fun _ => by kernel_rfl) (fun x4_9 hx4_9 => ?_)
   let E7 : Env := ((39, .bool (decide (x4_9.f0 = 9))) :: (38, .bool (decide (x4_9.f0 = 9))) :: (37, .bool (decide (x4_9.f0 = 9))) :: (36, .int .i64 x4_9.f0) :: (35, .vptr [.int .i64 x4_9.f0, .str x4_9.f1, .int .i64 x4_9.f2]) :: (34, .vptr [.int .i64 x4_9.f0, .str x4_9.f1, .int .i64 x4_9.f2]) :: (33, .vec (x0_0.1).length 3 ((x0_0.1).flatMap e29)) :: (32, .bool true) :: E6)
   refine ok_run 5 (p' := (atN 15 (ctl1 g10p5))) (env' := E7) (H' := (mkH [⟨[.int .i64 x3_0.1.f0, .str x3_0.1.f1, .int .i64 x3_0.1.f2], 3, false⟩])) (by kernel_rfl) ?_
   refine ok_split 39 (b := decide (x4_9.f0 = 9)) (by kernel_rfl) (fun hb => ?_) (fun hb => ?_)
   ·refine ok_run 1 (p' := (atN 16 (ctl1 g10p5))) (env' := ((40, .vec (x0_0.1).length 3 ((x0_0.1).flatMap e29)) :: (39, .bool true) :: E7)) (H' := (mkH [⟨[.int .i64 x3_0.1.f0, .str x3_0.1.f1, .int .i64 x3_0.1.f2], 3, false⟩])) (by kernel_rfl) ?_
    refine ok_chk (fun (x4_16 : S28) => (.vptr [.int .i64 x4_16.f0, .str x4_16.f1, .int .i64 x4_16.f2], (mkH [⟨[.int .i64 x3_0.1.f0, .str x3_0.1.f1, .int .i64 x3_0.1.f2], 3, false⟩]))) (atN 17 (ctl1 g10p5)) (fun x4_16 => ((41, .vptr [.int .i64 x4_16.f0, .str x4_16.f1, .int .i64 x4_16.f2]) :: (40, .vec (x0_0.1).length 3 ((x0_0.1).flatMap e29)) :: (39, .bool true) :: E7)) (vidxH (sz := 3) e29_len (by kernel_rfl)) (fun _ => by kernel_rfl) (fun x4_16 hx4_16 => ?_)
    let E8 : Env := ((46, .bool (decide (x4_16.f0 = 10))) :: (45, .bool (decide (x4_16.f0 = 10))) :: (44, .bool (decide (x4_16.f0 = 10))) :: (43, .int .i64 x4_16.f0) :: (42, .vptr [.int .i64 x4_16.f0, .str x4_16.f1, .int .i64 x4_16.f2]) :: (41, .vptr [.int .i64 x4_16.f0, .str x4_16.f1, .int .i64 x4_16.f2]) :: (40, .vec (x0_0.1).length 3 ((x0_0.1).flatMap e29)) :: (39, .bool true) :: E7)
    refine ok_run 5 (p' := (atN 22 (ctl1 g10p5))) (env' := E8) (H' := (mkH [⟨[.int .i64 x3_0.1.f0, .str x3_0.1.f1, .int .i64 x3_0.1.f2], 3, false⟩])) (by kernel_rfl) ?_
    refine ok_split 46 (b := decide (x4_16.f0 = 10)) (by kernel_rfl) (fun hb => ?_) (fun hb => ?_)
    ·refine ok_run 1 (p' := (atN 23 (ctl1 g10p5))) (env' := ((47, .vec (x0_0.1).length 3 ((x0_0.1).flatMap e29)) :: (46, .bool true) :: E8)) (H' := (mkH [⟨[.int .i64 x3_0.1.f0, .str x3_0.1.f1, .int .i64 x3_0.1.f2], 3, false⟩])) (by kernel_rfl) ?_
     refine ok_chk (fun (x4_23 : S28) => (.vptr [.int .i64 x4_23.f0, .str x4_23.f1, .int .i64 x4_23.f2], (mkH [⟨[.int .i64 x3_0.1.f0, .str x3_0.1.f1, .int .i64 x3_0.1.f2], 3, false⟩]))) (atN 24 (ctl1 g10p5)) (fun x4_23 => ((48, .vptr [.int .i64 x4_23.f0, .str x4_23.f1, .int .i64 x4_23.f2]) :: (47, .vec (x0_0.1).length 3 ((x0_0.1).flatMap e29)) :: (46, .bool true) :: E8)) (vidxH (sz := 3) e29_len (by kernel_rfl)) (fun _ => by kernel_rfl) (fun x4_23 hx4_23 => ?_)
     let E9 : Env := ((53, .bool (decide (x4_23.f0 = 11))) :: (52, .bool (decide (x4_23.f0 = 11))) :: (51, .bool (decide (x4_23.f0 = 11))) :: (50, .int .i64 x4_23.f0) :: (49, .vptr [.int .i64 x4_23.f0, .str x4_23.f1, .int .i64 x4_23.f2]) :: (48, .vptr [.int .i64 x4_23.f0, .str x4_23.f1, .int .i64 x4_23.f2]) :: (47, .vec (x0_0.1).length 3 ((x0_0.1).flatMap e29)) :: (46, .bool true) :: E8)
     refine ok_run 5 (p' := (atN 29 (ctl1 g10p5))) (env' := E9) (H' := (mkH [⟨[.int .i64 x3_0.1.f0, .str x3_0.1.f1, .int .i64 x3_0.1.f2], 3, false⟩])) (by kernel_rfl) ?_
     refine ok_split 53 (b := decide (x4_23.f0 = 11)) (by kernel_rfl) (fun hb => ?_) (fun hb => ?_)
     ·refine ok_run 1 (p' := (atN 30 (ctl1 g10p5))) (env' := ((54, .vec (x0_0.1).length 3 ((x0_0.1).flatMap e29)) :: (53, .bool true) :: E9)) (H' := (mkH [⟨[.int .i64 x3_0.1.f0, .str x3_0.1.f1, .int .i64 x3_0.1.f2], 3, false⟩])) (by kernel_rfl) ?_
      refine ok_chk (fun (x4_30 : S28) => (.vptr [.int .i64 x4_30.f0, .str x4_30.f1, .int .i64 x4_30.f2], (mkH [⟨[.int .i64 x3_0.1.f0, .str x3_0.1.f1, .int .i64 x3_0.1.f2], 3, false⟩]))) (atN 31 (ctl1 g10p5)) (fun x4_30 => ((55, .vptr [.int .i64 x4_30.f0, .str x4_30.f1, .int .i64 x4_30.f2]) :: (54, .vec (x0_0.1).length 3 ((x0_0.1).flatMap e29)) :: (53, .bool true) :: E9)) (vidxH (sz := 3) e29_len (by kernel_rfl)) (fun _ => by kernel_rfl) (fun x4_30 hx4_30 => ?_)
      let E10 : Env := ((60, .bool (eqL x4_30.f1 [37, 99])) :: (59, .bool (eqL x4_30.f1 [37, 99])) :: (58, .bool (eqL x4_30.f1 [37, 99])) :: (57, .str x4_30.f1) :: (56, .vptr [.str x4_30.f1, .int .i64 x4_30.f2]) :: (55, .vptr [.int .i64 x4_30.f0, .str x4_30.f1, .int .i64 x4_30.f2]) :: (54, .vec (x0_0.1).length 3 ((x0_0.1).flatMap e29)) :: (53, .bool true) :: E9)
      refine ok_run 5 (p' := (atN 36 (ctl1 g10p5))) (env' := E10) (H' := (mkH [⟨[.int .i64 x3_0.1.f0, .str x3_0.1.f1, .int .i64 x3_0.1.f2], 3, false⟩])) (by kernel_rfl) ?_
      refine ok_split 60 (b := eqL x4_30.f1 [37, 99]) (by kernel_rfl) (fun hb => ?_) (fun hb => ?_)
      ·let E11 : Env := ((64, .bool (decide (x1_0.2 = 4))) :: (63, .bool (decide (x1_0.2 = 4))) :: (62, .bool (decide (x1_0.2 = 4))) :: (61, .int .i64 x1_0.2) :: (60, .bool true) :: E10)
       refine ok_run 4 (p' := (atN 40 (ctl1 g10p5))) (env' := E11) (H' := (mkH [⟨[.int .i64 x3_0.1.f0, .str x3_0.1.f1, .int .i64 x3_0.1.f2], 3, false⟩])) (by kernel_rfl) ?_
       refine ok_split 64 (b := decide (x1_0.2 = 4)) (by kernel_rfl) (fun hb => ?_) (fun hb => ?_)
       ·let E12 : Env := ((68, .bool (decide (x2_0.2 = 2))) :: (67, .bool (decide (x2_0.2 = 2))) :: (66, .bool (decide (x2_0.2 = 2))) :: (65, .int .i64 x2_0.2) :: (64, .bool true) :: E11)
        refine ok_run 4 (p' := (atN 44 (ctl1 g10p5))) (env' := E12) (H' := (mkH [⟨[.int .i64 x3_0.1.f0, .str x3_0.1.f1, .int .i64 x3_0.1.f2], 3, false⟩])) (by kernel_rfl) ?_
        refine ok_split 68 (b := decide (x2_0.2 = 2)) (by kernel_rfl) (fun hb => ?_) (fun hb => ?_)
        ·let E13 : Env := ((72, .bool (decide (x3_0.2 = 4))) :: (71, .bool (decide (x3_0.2 = 4))) :: (70, .bool (decide (x3_0.2 = 4))) :: (69, .int .i64 x3_0.2) :: (68, .bool true) :: E12)
         refine ok_run 4 (p' := (atN 48 (ctl1 g10p5))) (env' := E13) (H' := (mkH [⟨[.int .i64 x3_0.1.f0, .str x3_0.1.f1, .int .i64 x3_0.1.f2], 3, false⟩])) (by kernel_rfl) ?_
         refine ok_split 72 (b := decide (x3_0.2 = 4)) (by kernel_rfl) (fun hb => ?_) (fun hb => ?_)
         ·let E14 : Env := ((77, .bool (decide (x3_0.1.f0 = 0))) :: (76, .bool (decide (x3_0.1.f0 = 0))) :: (75, .bool (decide (x3_0.1.f0 = 0))) :: (74, .int .i64 x3_0.1.f0) :: (73, .ptr 0 3 0) :: (72, .bool true) :: E13)
          refine ok_run 5 (p' := (atN 53 (ctl1 g10p5))) (env' := E14) (H' := (mkH [⟨[.int .i64 x3_0.1.f0, .str x3_0.1.f1, .int .i64 x3_0.1.f2], 3, false⟩])) (by kernel_rfl) ?_
          refine ok_split 77 (b := decide (x3_0.1.f0 = 0)) (by kernel_rfl) (fun hb => ?_) (fun hb => ?_)
          ·refine ok_call (fun (x4_53 : Int) => .int .i64 x4_53) (atN 54 (ctl1 g10p5)) (fun x4_53 => ((78, .int .i64 x4_53) :: (77, .bool true) :: E14)) (fi := 16) (args := [.str [32, 10, 32, 120], .int .i64 0]) (by kernel_rfl) (by kernel_rfl) (fun _ => by kernel_rfl) (fun r h => g16_ok k ([32, 10, 32, 120] : List Nat) (0 : Int) r h) (fun _ => by kernel_rfl) (fun x4_53 hx4_53 => ?_)
           let E15 : Env := ((0, .bool (decide (x4_53 = 3))) :: (80, .bool (decide (x4_53 = 3))) :: (79, .bool (decide (x4_53 = 3))) :: (78, .int .i64 x4_53) :: (77, .bool true) :: E14)
           refine ok_run 5 (p' := .fin) (env' := E15) (H' := (mkH [⟨[.int .i64 x3_0.1.f0, .str x3_0.1.f1, .int .i64 x3_0.1.f2], 3, false⟩])) (by kernel_rfl) ?_
           exact ok_ret (r := (decide (x4_53 = 3))) (xs := [.bool (decide (x4_53 = 3))]) (v := .bool (decide (x4_53 = 3))) (by kernel_rfl) (by kernel_rfl) (by kernel_rfl) (.pures (by kernel_rfl)) (by kernel_rfl)
          ·let E16 : Env := ((0, .bool false) :: (80, .bool false) :: (79, .tuple []) :: (78, .tuple []) :: (77, .bool false) :: E14)
           refine ok_run 6 (p' := .fin) (env' := E16) (H' := (mkH [⟨[.int .i64 x3_0.1.f0, .str x3_0.1.f1, .int .i64 x3_0.1.f2], 3, false⟩])) (by kernel_rfl) ?_
           exact ok_ret (r := false) (xs := [.bool false]) (v := .bool false) (by kernel_rfl) (by kernel_rfl) (by kernel_rfl) (.pures (by kernel_rfl)) (by kernel_rfl)
         ·let E17 : Env := ((0, .bool false) :: (80, .bool false) :: (79, .tuple []) :: (78, .tuple []) :: (77, .bool false) :: (76, .bool false) :: (75, .tuple []) :: (74, .tuple []) :: (73, .tuple []) :: (72, .bool false) :: E13)
          refine ok_run 11 (p' := .fin) (env' := E17) (H' := (mkH [⟨[.int .i64 x3_0.1.f0, .str x3_0.1.f1, .int .i64 x3_0.1.f2], 3, false⟩])) (by kernel_rfl) ?_
          exact ok_ret (r := false) (xs := [.bool false]) (v := .bool false) (by kernel_rfl) (by kernel_rfl) (by kernel_rfl) (.pures (by kernel_rfl)) (by kernel_rfl)
        ·let E18 : Env := ((0, .bool false) :: (80, .bool false) :: (79, .tuple []) :: (78, .tuple []) :: (77, .bool false) :: (76, .bool false) :: (75, .tuple []) :: (74, .tuple []) :: (73, .tuple []) :: (72, .bool false) :: (71, .bool false) :: (70, .tuple []) :: (69, .tuple []) :: (68, .bool false) :: E12)
         refine ok_run 15 (p' := .fin) (env' := E18) (H' := (mkH [⟨[.int .i64 x3_0.1.f0, .str x3_0.1.f1, .int .i64 x3_0.1.f2], 3, false⟩])) (by kernel_rfl) ?_
         exact ok_ret (r := false) (xs := [.bool false]) (v := .bool false) (by kernel_rfl) (by kernel_rfl) (by kernel_rfl) (.pures (by kernel_rfl)) (by kernel_rfl)
       ·let E19 : Env := ((0, .bool false) :: (80, .bool false) :: (79, .tuple []) :: (78, .tuple []) :: (77, .bool false) :: (76, .bool false) :: (75, .tuple []) :: (74, .tuple []) :: (73, .tuple []) :: (72, .bool false) :: (71, .bool false) :: (70, .tuple []) :: (69, .tuple []) :: (68, .bool false) :: (67, .bool false) :: (66, .tuple []) :: (65, .tuple []) :: (64, .bool false) :: E11)
        refine ok_run 19 (p' := .fin) (env' := E19) (H' := (mkH [⟨[.int .i64 x3_0.1.f0, .str x3_0.1.f1, .int .i64 x3_0.1.f2], 3, false⟩])) (by kernel_rfl) ?_
        exact ok_ret (r := false) (xs := [.bool false]) (v := .bool false) (by kernel_rfl) (by kernel_rfl) (by kernel_rfl) (.pures (by kernel_rfl)) (by kernel_rfl)
      ·let E20 : Env := ((0, .bool false) :: (80, .bool false) :: (79, .tuple []) :: (78, .tuple []) :: (77, .bool false) :: (76, .bool false) :: (75, .tuple []) :: (74, .tuple []) :: (73, .tuple []) :: (72, .bool false) :: (71, .bool false) :: (70, .tuple []) :: (69, .tuple []) :: (68, .bool false) :: (67, .bool false) :: (66, .tuple []) :: (65, .tuple []) :: (64, .bool false) :: (63, .bool false) :: (62, .tuple []) :: (61, .tuple []) :: (60, .bool false) :: E10)
       refine ok_run 23 (p' := .fin) (env' := E20) (H' := (mkH [⟨[.int .i64 x3_0.1.f0, .str x3_0.1.f1, .int .i64 x3_0.1.f2], 3, false⟩])) (by kernel_rfl) ?_
       exact ok_ret (r := false) (xs := [.bool false]) (v := .bool false) (by kernel_rfl) (by kernel_rfl) (by kernel_rfl) (.pures (by kernel_rfl)) (by kernel_rfl)
     ·let E21 : Env := ((0, .bool false) :: (80, .bool false) :: (79, .tuple []) :: (78, .tuple []) :: (77, .bool false) :: (76, .bool false) :: (75, .tuple []) :: (74, .tuple []) :: (73, .tuple []) :: (72, .bool false) :: (71, .bool false) :: (70, .tuple []) :: (69, .tuple []) :: (68, .bool false) :: (67, .bool false) :: (66, .tuple []) :: (65, .tuple []) :: (64, .bool false) :: (63, .bool false) :: (62, .tuple []) :: (61, .tuple []) :: (60, .bool false) :: (59, .bool false) :: (58, .tuple []) :: (57, .tuple []) :: (56, .tuple []) :: (55, .tuple []) :: (54, .tuple []) :: (53, .bool false) :: E9)
      refine ok_run 30 (p' := .fin) (env' := E21) (H' := (mkH [⟨[.int .i64 x3_0.1.f0, .str x3_0.1.f1, .int .i64 x3_0.1.f2], 3, false⟩])) (by kernel_rfl) ?_
      exact ok_ret (r := false) (xs := [.bool false]) (v := .bool false) (by kernel_rfl) (by kernel_rfl) (by kernel_rfl) (.pures (by kernel_rfl)) (by kernel_rfl)
    ·let E22 : Env := ((0, .bool false) :: (80, .bool false) :: (79, .tuple []) :: (78, .tuple []) :: (77, .bool false) :: (76, .bool false) :: (75, .tuple []) :: (74, .tuple []) :: (73, .tuple []) :: (72, .bool false) :: (71, .bool false) :: (70, .tuple []) :: (69, .tuple []) :: (68, .bool false) :: (67, .bool false) :: (66, .tuple []) :: (65, .tuple []) :: (64, .bool false) :: (63, .bool false) :: (62, .tuple []) :: (61, .tuple []) :: (60, .bool false) :: (59, .bool false) :: (58, .tuple []) :: (57, .tuple []) :: (56, .tuple []) :: (55, .tuple []) :: (54, .tuple []) :: (53, .bool false) :: (52, .bool false) :: (51, .tuple []) :: (50, .tuple []) :: (49, .tuple []) :: (48, .tuple []) :: (47, .tuple []) :: (46, .bool false) :: E8)
     refine ok_run 37 (p' := .fin) (env' := E22) (H' := (mkH [⟨[.int .i64 x3_0.1.f0, .str x3_0.1.f1, .int .i64 x3_0.1.f2], 3, false⟩])) (by kernel_rfl) ?_
     exact ok_ret (r := false) (xs := [.bool false]) (v := .bool false) (by kernel_rfl) (by kernel_rfl) (by kernel_rfl) (.pures (by kernel_rfl)) (by kernel_rfl)
   ·let E23 : Env := ((0, .bool false) :: (80, .bool false) :: (79, .tuple []) :: (78, .tuple []) :: (77, .bool false) :: (76, .bool false) :: (75, .tuple []) :: (74, .tuple []) :: (73, .tuple []) :: (72, .bool false) :: (71, .bool false) :: (70, .tuple []) :: (69, .tuple []) :: (68, .bool false) :: (67, .bool false) :: (66, .tuple []) :: (65, .tuple []) :: (64, .bool false) :: (63, .bool false) :: (62, .tuple []) :: (61, .tuple []) :: (60, .bool false) :: (59, .bool false) :: (58, .tuple []) :: (57, .tuple []) :: (56, .tuple []) :: (55, .tuple []) :: (54, .tuple []) :: (53, .bool false) :: (52, .bool false) :: (51, .tuple []) :: (50, .tuple []) :: (49, .tuple []) :: (48, .tuple []) :: (47, .tuple []) :: (46, .bool false) :: (45, .bool false) :: (44, .tuple []) :: (43, .tuple []) :: (42, .tuple []) :: (41, .tuple []) :: (40, .tuple []) :: (39, .bool false) :: E7)
    refine ok_run 44 (p' := .fin) (env' := E23) (H' := (mkH [⟨[.int .i64 x3_0.1.f0, .str x3_0.1.f1, .int .i64 x3_0.1.f2], 3, false⟩])) (by kernel_rfl) ?_
    exact ok_ret (r := false) (xs := [.bool false]) (v := .bool false) (by kernel_rfl) (by kernel_rfl) (by kernel_rfl) (.pures (by kernel_rfl)) (by kernel_rfl)
  ·let E24 : Env := ((0, .bool false) :: (80, .bool false) :: (79, .tuple []) :: (78, .tuple []) :: (77, .bool false) :: (76, .bool false) :: (75, .tuple []) :: (74, .tuple []) :: (73, .tuple []) :: (72, .bool false) :: (71, .bool false) :: (70, .tuple []) :: (69, .tuple []) :: (68, .bool false) :: (67, .bool false) :: (66, .tuple []) :: (65, .tuple []) :: (64, .bool false) :: (63, .bool false) :: (62, .tuple []) :: (61, .tuple []) :: (60, .bool false) :: (59, .bool false) :: (58, .tuple []) :: (57, .tuple []) :: (56, .tuple []) :: (55, .tuple []) :: (54, .tuple []) :: (53, .bool false) :: (52, .bool false) :: (51, .tuple []) :: (50, .tuple []) :: (49, .tuple []) :: (48, .tuple []) :: (47, .tuple []) :: (46, .bool false) :: (45, .bool false) :: (44, .tuple []) :: (43, .tuple []) :: (42, .tuple []) :: (41, .tuple []) :: (40, .tuple []) :: (39, .bool false) :: (38, .bool false) :: (37, .tuple []) :: (36, .tuple []) :: (35, .tuple []) :: (34, .tuple []) :: (33, .tuple []) :: (32, .bool false) :: E6)
   refine ok_run 51 (p' := .fin) (env' := E24) (H' := (mkH [⟨[.int .i64 x3_0.1.f0, .str x3_0.1.f1, .int .i64 x3_0.1.f2], 3, false⟩])) (by kernel_rfl) ?_
   exact ok_ret (r := false) (xs := [.bool false]) (v := .bool false) (by kernel_rfl) (by kernel_rfl) (by kernel_rfl) (.pures (by kernel_rfl)) (by kernel_rfl)
 ·let E25 : Env := ((0, .bool false) :: (80, .bool false) :: (79, .tuple []) :: (78, .tuple []) :: (77, .bool false) :: (76, .bool false) :: (75, .tuple []) :: (74, .tuple []) :: (73, .tuple []) :: (72, .bool false) :: (71, .bool false) :: (70, .tuple []) :: (69, .tuple []) :: (68, .bool false) :: (67, .bool false) :: (66, .tuple []) :: (65, .tuple []) :: (64, .bool false) :: (63, .bool false) :: (62, .tuple []) :: (61, .tuple []) :: (60, .bool false) :: (59, .bool false) :: (58, .tuple []) :: (57, .tuple []) :: (56, .tuple []) :: (55, .tuple []) :: (54, .tuple []) :: (53, .bool false) :: (52, .bool false) :: (51, .tuple []) :: (50, .tuple []) :: (49, .tuple []) :: (48, .tuple []) :: (47, .tuple []) :: (46, .bool false) :: (45, .bool false) :: (44, .tuple []) :: (43, .tuple []) :: (42, .tuple []) :: (41, .tuple []) :: (40, .tuple []) :: (39, .bool false) :: (38, .bool false) :: (37, .tuple []) :: (36, .tuple []) :: (35, .tuple []) :: (34, .tuple []) :: (33, .tuple []) :: (32, .bool false) :: (31, .bool false) :: (30, .tuple []) :: (29, .tuple []) :: (28, .tuple []) :: (27, .bool false) :: E5)
  refine ok_run 56 (p' := .fin) (env' := E25) (H' := (mkH [⟨[.int .i64 x3_0.1.f0, .str x3_0.1.f1, .int .i64 x3_0.1.f2], 3, false⟩])) (by kernel_rfl) ?_
  exact ok_ret (r := false) (xs := [.bool false]) (v := .bool false) (by kernel_rfl) (by kernel_rfl) (by kernel_rfl) (.pures (by kernel_rfl)) (by kernel_rfl)
end
end Go.Proofs.Ytokcjgjgojlhbaa.Am
set_option maxRecDepth 100000
set_option linter.unusedVariables false
namespace Go.Proofs.Ytokcjgjgojlhbaa.Am
noncomputable section
open Go
def X13 : Fx Bool := ⟨Try.prog, cx, Try.f13, fun r => .bool r, 0, fun _ => H0, cxTi, cxOrd⟩
def g13p0 : Pt := nav [0] (bodyAt Try.f13)
def g13p1 : Pt := nav [0, 0, 0, 0] g13p0
def g13p2 : Pt := nav [0, 0] g13p1
def g13p4 : Pt := nav [2, 0, 0, 0] g13p2
def g13p6 : Pt := nav [0, 0, 0, 0] g13p4
def g13p7 : Pt := nav [0, 0, 0] g13p6
def g13p8 : Pt := nav [0, 0] g13p7
def g13p9 : Pt := nav [1, 0, 0, 0, 0] g13p8
def g13_l1 (k : Nat)  (a0 : (List S28)) (a1 : (List S28)) (n : Nat) : Int → Option Bool :=
 Nat.rec (motive := fun _ => Int → Option Bool) (fun _ => none) (fun _ ih => fun (y1_0 : Int) => if (decide (y1_0 < (a0.length : Int))) then ((nthL a0 y1_0).bind fun x0_2 => (nthL a1 y1_0).bind fun x0_6 => if (!((decide (x0_2.f0 = x0_6.f0)) && ((eqL x0_2.f1 x0_6.f1) && ((decide (x0_2.f2 = x0_6.f2)) && true)))) then (some false) else (ih (fwrap .i64 (y1_0 + 1)))) else (some true)) n
theorem g13_l1_s (k : Nat)  (a0 : (List S28)) (a1 : (List S28)) (n : Nat) (y1_0 : Int) : g13_l1 k a0 a1 (n + 1) y1_0 = (if (decide (y1_0 < (a0.length : Int))) then ((nthL a0 y1_0).bind fun x0_2 => (nthL a1 y1_0).bind fun x0_6 => if (!((decide (x0_2.f0 = x0_6.f0)) && ((eqL x0_2.f1 x0_6.f1) && ((decide (x0_2.f2 = x0_6.f2)) && true)))) then (some false) else ((g13_l1 k a0 a1 n) (fwrap .i64 (y1_0 + 1)))) else (some true)) := rfl
end
end Go.Proofs.Ytokcjgjgojlhbaa.Am
