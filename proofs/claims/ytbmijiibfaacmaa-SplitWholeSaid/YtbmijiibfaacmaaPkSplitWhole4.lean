/- LawSplitWhole, part 4: whatever the input, the law comes out true: our texts, joined by a tool, without what the claim does not name. -/
import Derived.Test.YtbmijiibfaacmaaPkSplitWhole3
import Derived.Below
import Derived.Test.YtbmijiibfaacmaaRows
import Derived.WalkKit
import Derived.ProofKit
import Derived.OpenShut
import Derived.ShutString
import Derived.ChangeOld
import Derived.SizedLaws
set_option maxRecDepth 100000
set_option linter.unusedVariables false
set_option linter.unusedSimpArgs false
namespace Go.Proofs.Ytbmijiibfaacmaa.Am
open Go
theorem rOne_at {k : Nat} {s : List Nat} (hk : s.length + 40 < k) (hs : By s) (hl : Sz s) {a : Nat} (ha : a < s.length) : g46 k s (a : Int) = some (oneAt s a) := by
 have hl' := hl
 unfold Sz at hl
 unfold g46 oneAt
 refine (jS (v := false) (fun j => by simp (disch := omega) only [↓reduceIte, ↓jn, gsL])).trans ?_
 refine iF rfl ?_
 obtain ⟨c, r, hc, hr, hm, hrl⟩ := dcons ha
 have c256 := hs c hm
 have nc := nthX (x := (a : Int)) rfl hc
 have ol := oneN_le (s.drop a)
 rw [List.length_drop] at ol
 refine bS (by (try simp (disch := omega) only [fwI]); exact nc) ?_
 by_cases h37 : c = 37
 ·subst h37
  refine iT rfl ?_
  have e : oneN (s.drop a) = (cmtN (s.drop a), 11) := by rw [hc]; rfl
  rw [e, if_neg (by rw [hc]; have := cmtN_pos r; show ¬ cmtN (37 :: r) = 0; omega)]
  exact rnote_l (by omega) hs hl' hc k a (by omega) (by omega) rfl (Nat.le_refl _)
 refine iF (dF (by omega)) ?_
 have out : ∀ (n kind : Nat), n ≤ s.length - a → (if decide ((n : Int) = 0) then some (tok0, (4 : Int)) else (subL s (some (a : Int)) (some (fW .i64 ((a : Int) + (n : Int))))).bind fun x14_6 => some ((⟨(kind : Int), x14_6, (a : Int)⟩ : S46), (0 : Int))) = some (if n = 0 then (tok0, 4) else (mkTok s (kind, a, n), 0)) := by
  intro n kind hn
  by_cases h0 : n = 0
  ·rw [if_pos h0]
   refine iT (dT (by omega)) rfl
  ·rw [if_neg h0]
   refine iF (dF (by omega)) ?_
   rw [fw_a (by omega) (by omega)]
   refine bS (by (try simp (disch := omega) only [fwI]); exact subMid (s := s) (i := a) (j := a + n) rfl rfl (by omega) (by omega)) ?_
   rw [List.drop_take, Nat.add_sub_cancel_left]; rfl
 have isD : ∀ _ : Unit, (∀ (j : Bool → Option (S46 × Int)), (if (decide ((c : Int) = 46)) then (if (decide (fW .i64 ((a : Int) + 1) = (s.length : Int))) then (j true) else ((nthS s (fW .i64 ((a : Int) + 1))).bind fun x1_12 => if (decide (x1_12 = 37)) then (j true) else ((g45 k s (fW .i64 ((a : Int) + 1))).bind fun x1_19 => j (decide (fW .i64 ((a : Int) + 1) < x1_19))))) else (j false)) = j (decide (c = 46) && dotN r)) := by
  intro _ j
  by_cases h46 : c = 46
  ·rw [decide_eq_true h46, Bool.true_and]
   refine iT (dT (by omega)) ?_
   rw [fw_s (by omega)]
   cases r with
   | nil =>
    simp only [List.length_nil] at hrl
    refine iT (dT (by omega)) rfl
   | cons d q =>
    simp only [List.length_cons] at hrl
    have nd := nthX (x := ((a + 1 : Nat) : Int)) rfl hr
    refine iF (dF (by omega)) ?_
    refine bS (by (try simp (disch := omega) only [fwI]); exact nd) ?_
    simp only [dotN]
    by_cases h37 : d = 37
    ·refine iT (dT (by omega)) ?_
     rw [decide_eq_true h37, Bool.or_true]
    ·refine iF (dF (by omega)) ?_
     have rb := rblank_at (k := k) (by omega) hs hl' (a := a + 1) (by omega)
     rw [hr] at rb
     refine bS (by (try simp (disch := omega) only [fwI]); exact rb) ?_
     rw [decide_eq_false h37, Bool.or_false]
     refine congrArg j ?_
     by_cases hb : blkN d = true
     ·have e : skipN (d :: q) = skipN q + 1 := by simp only [skipN, hb, if_true]
      rw [hb]; exact decide_eq_true (by omega)
     ·have e : skipN (d :: q) = 0 := by simp only [skipN, if_neg hb]
      rw [Bool.eq_false_iff.2 hb]; exact decide_eq_false (by omega)
  ·rw [decide_eq_false h46, Bool.false_and]
   refine iF (dF (by omega)) rfl
 have eo : oneN (s.drop a) = if c = 46 ∧ dotN r = true then (1, 10) else if c = 39 then (qtdN (s.drop a), 1) else if c = 34 then (qtdN (s.drop a), 6) else if c = 36 then (chrN (s.drop a), 5) else if c = 63 then (macN (s.drop a), 7)
  else if begN c = 3 then numN (s.drop a) else if begN c = 1 ∨ begN c = 2 then (innN (s.drop a), if rsvN ((s.drop a).take (innN (s.drop a))) then 8 else begN c) else (lngN (s.drop a), 9) := by
  rw [hc]; simp only [oneN]; rw [if_neg h37]
 refine (jS (v := decide (c = 46) && dotN r) (fun j => isD () j)).trans ?_
 clear isD
 have il := innN_le (s.drop a)
 rw [List.length_drop] at il
 by_cases h46 : c = 46 ∧ dotN r = true
 ·rw [if_pos h46] at eo
  rw [eo] at ol ⊢
  obtain ⟨h1, h2⟩ := h46
  rw [decide_eq_true h1, h2]
  refine (jS (v := (((10 : Nat) : Int), ((1 : Nat) : Int))) (fun j => iT (Bool.and_self true) (congrArg j (Prod.ext rfl rfl)))).trans ?_
  exact out 1 10 ol
 ·rw [if_neg h46] at eo
  have : (decide (c = 46) && dotN r) = false := by
   rw [Bool.and_eq_false_iff]
   by_cases h : c = 46
   ·right
    cases hd : dotN r with
    | true => exact absurd ⟨h, hd⟩ h46
    | false => rfl
   ·left; exact decide_eq_false h
  rw [this]
  have bg := begins_at58 k c256
  have nodig : (c = 39 ∨ c = 34 ∨ c = 36 ∨ c = 63) → begN c = 0 := by rintro (rfl | rfl | rfl | rfl) <;> decide
  by_cases h39 : c = 39
  ·rw [if_pos h39] at eo
   rw [eo] at ol ⊢
   subst h39
   refine (jS (v := (((1 : Nat) : Int), (qtdN (s.drop a) : Int))) (fun j => ?_)).trans ?_
   ·refine iF rfl ?_
    refine bS (by (try simp (disch := omega) only [fwI]); exact bg) ?_
    refine iF rfl ?_
    refine bS (by (try simp (disch := omega) only [fwI]); exact bg) ?_
    refine iF rfl ?_
    refine iT rfl ?_
    refine bS (by (try simp (disch := omega) only [fwI]); exact rquoted_at (by omega) hs hl' hc (.inl rfl)) ?_
    rfl
   ·exact out _ 1 ol
  rw [if_neg h39] at eo
  by_cases h34 : c = 34
  ·rw [if_pos h34] at eo
   rw [eo] at ol ⊢
   subst h34
   refine (jS (v := (((6 : Nat) : Int), (qtdN (s.drop a) : Int))) (fun j => ?_)).trans ?_
   ·refine iF rfl ?_
    refine bS (by (try simp (disch := omega) only [fwI]); exact bg) ?_
    refine iF rfl ?_
    refine bS (by (try simp (disch := omega) only [fwI]); exact bg) ?_
    refine iF rfl ?_
    refine iF rfl ?_
    refine iT rfl ?_
    refine bS (by (try simp (disch := omega) only [fwI]); exact rquoted_at (by omega) hs hl' hc (.inr rfl)) ?_
    rfl
   ·exact out _ 6 ol
  rw [if_neg h34] at eo
  by_cases h36 : c = 36
  ·rw [if_pos h36] at eo
   rw [eo] at ol ⊢
   subst h36
   refine (jS (v := (((5 : Nat) : Int), (chrN (s.drop a) : Int))) (fun j => ?_)).trans ?_
   ·refine iF rfl ?_
    refine bS (by (try simp (disch := omega) only [fwI]); exact bg) ?_
    refine iF rfl ?_
    refine bS (by (try simp (disch := omega) only [fwI]); exact bg) ?_
    refine iF rfl ?_
    refine iF rfl ?_
    refine iF rfl ?_
    refine iT rfl ?_
    refine bS (by (try simp (disch := omega) only [fwI]); exact rchar_at (by omega) hs hl' hc) ?_
    rfl
   ·exact out _ 5 ol
  rw [if_neg h36] at eo
  by_cases h63 : c = 63
  ·rw [if_pos h63] at eo
   rw [eo] at ol ⊢
   subst h63
   have mac : ∀ (n : Nat) (t : List Nat) (j : Int × Int → Option (S46 × Int)), a + n ≤ s.length → s.drop (a + n) = t →
    jn (fun (z23 : Bool) => if z23 then ((g60 k s ((a + n : Nat) : Int)).bind fun x13_2 => j (7, fW .i64 (x13_2 - (a : Int)))) else (j (0, 0))) (fun j23 => if (decide (((a + n : Nat) : Int) < (s.length : Int))) then ((nthS s ((a + n : Nat) : Int)).bind fun x12_7 => (g64 k x12_7).bind fun x12_8 => if x12_8 then (j23 true) else ((nthS s ((a + n : Nat) : Int)).bind fun x12_12 => j23 (decide (x12_12 = 95)))) else (j23 false)) = j (if macB t then (7, (mac1 n t : Int)) else (0, 0)) := by
    intro n t j hn ht
    rcases Nat.lt_or_ge (a + n) s.length with h | h
    ·obtain ⟨d, q, hd, hq, hdm, hql⟩ := dcons h
     rw [ht] at hd
     subst hd
     have nd := nthX (x := ((a + n : Nat) : Int)) rfl ht
     have lt := letter_at k (hs d hdm)
     have lb : (letN d || decide (d = 95)) = decide (begN d = 1 ∨ begN d = 2) := by
      have w := byteAll (f := fun d => (letN d || decide (d = 95)) == decide (begN d = 1 ∨ begN d = 2)) (by decide +kernel) (hs d hdm)
      exact eq_of_beq w
     refine (jS (v := decide (begN d = 1 ∨ begN d = 2)) (fun j23 => ?_)).trans ?_
     ·refine iT (dT (by omega)) ?_
      refine bS (by (try simp (disch := omega) only [fwI]); exact nd) ?_
      refine bS (by (try simp (disch := omega) only [fwI]); exact lt) ?_
      rw [← lb]
      cases letN d with
      | true => rfl
      | false =>
       refine iF rfl ?_
       refine bS (by (try simp (disch := omega) only [fwI]); exact nd) ?_
       rw [Bool.false_or]
       refine congrArg j23 ?_
       rw [Bool.eq_iff_iff]; simp; omega
     ·by_cases hb : begN d = 1 ∨ begN d = 2
      ·have mb : macB (d :: q) = true := decide_eq_true hb
       rw [decide_eq_true hb, mb]
       refine iT rfl ?_
       have ri := rinner_at (k := k) (by omega) hs hl' (a := a + n) hn
       rw [ht] at ri
       refine bS (by (try simp (disch := omega) only [fwI]); exact ri) ?_
       have il := innN_le (d :: q)
       simp only [List.length_cons] at il
       rw [fwI (by omega) (by omega)]
       simp only [mac1, if_pos hb, if_true]
       refine congrArg j (Prod.ext rfl ?_)
       show ((_ : Nat) : Int) - (a : Int) = ((_ : Nat) : Int)
       omega
      ·have mb : macB (d :: q) = false := decide_eq_false hb
       rw [decide_eq_false hb, mb]
       rfl
    ·rw [dnil h] at ht
     subst ht
     refine (jS (v := false) (fun j23 => ?_)).trans ?_
     ·refine iF (dF (by omega)) rfl
     ·rfl
   have fin : ∀ (n : Nat) (t : List Nat) (X : (Int × Int → Option (S46 × Int)) → Option (S46 × Int)), macN (s.drop a) = mac1 n t → (∀ j, X j = j (if macB t then (7, (mac1 n t : Int)) else (0, 0))) →
    jn (fun (z20 : Int × Int) => if (decide (z20.2 = 0)) then (some ((⟨(0 : Int), ([] : List Nat), (0 : Int)⟩ : S46), (4 : Int))) else ((subL s (some (a : Int)) (some (fW .i64 ((a : Int) + z20.2)))).bind fun x14_6 => some ((⟨z20.1, x14_6, (a : Int)⟩ : S46), (0 : Int)))) X = some (if (macN (s.drop a), 7).1 = 0 then (tok0, 4) else (mkTok s ((macN (s.drop a), 7).2, a, (macN (s.drop a), 7).1), 0)) := by
    intro n t X hm hX
    rw [hm] at ol ⊢
    cases h : macB t with
    | false =>
     rw [h] at hX
     have m0 : mac1 n t = 0 := by
      cases t with
      | nil => rfl
      | cons d q => simp only [mac1, if_neg (of_decide_eq_false h)]
     refine (jS hX).trans ?_
     rw [m0]; rfl
    | true =>
     rw [h] at hX
     refine (jS hX).trans ?_
     exact out _ 7 ol
   cases r with
   | nil =>
    simp only [List.length_nil] at hrl
    refine fin 1 [] _ (by rw [hc]; rfl) (fun j => ?_)
    refine iF rfl ?_
    refine bS (by (try simp (disch := omega) only [fwI]); exact bg) ?_
    refine iF rfl ?_
    refine bS (by (try simp (disch := omega) only [fwI]); exact bg) ?_
    refine iF rfl ?_
    refine iF rfl ?_
    refine iF rfl ?_
    refine iF rfl ?_
    refine iT rfl ?_
    refine (jS (v := false) (fun j => ?_)).trans ?_
    ·refine iF (dF (by rw [fw_s (by omega)]; omega)) rfl
    ·refine (jS (v := ((a + 1 : Nat) : Int)) (fun j => ?_)).trans ?_
     ·refine iF rfl ?_
      rw [fw_s (by omega)]
     ·exact mac 1 [] j (by omega) hr
   | cons d q =>
    simp only [List.length_cons] at hrl
    have nd := nthX (x := ((a + 1 : Nat) : Int)) rfl hr
    by_cases hd : d = 63
    ·refine fin 2 q _ (by rw [hc]; simp only [macN, hd, if_true]) (fun j => ?_)
     refine iF rfl ?_
     refine bS (by (try simp (disch := omega) only [fwI]); exact bg) ?_
     refine iF rfl ?_
     refine bS (by (try simp (disch := omega) only [fwI]); exact bg) ?_
     refine iF rfl ?_
     refine iF rfl ?_
     refine iF rfl ?_
     refine iF rfl ?_
     refine iT rfl ?_
     refine (jS (v := true) (fun j => ?_)).trans ?_
     ·rw [fw_s (by omega)]
      refine iT (dT (by omega)) ?_
      refine bS (by (try simp (disch := omega) only [fwI]); exact nd) ?_
      rw [dT (by omega)]
     ·refine (jS (v := ((a + 2 : Nat) : Int)) (fun j => ?_)).trans ?_
      ·refine iT rfl ?_
       rw [fw_s (by omega), fw_s (by omega)]
      ·exact mac 2 q j (by omega) (drop_step hr)
    ·refine fin 1 (d :: q) _ (by rw [hc]; simp only [macN, hd, if_false]) (fun j => ?_)
     refine iF rfl ?_
     refine bS (by (try simp (disch := omega) only [fwI]); exact bg) ?_
     refine iF rfl ?_
     refine bS (by (try simp (disch := omega) only [fwI]); exact bg) ?_
     refine iF rfl ?_
     refine iF rfl ?_
     refine iF rfl ?_
     refine iF rfl ?_
     refine iT rfl ?_
     refine (jS (v := false) (fun j => ?_)).trans ?_
     ·rw [fw_s (by omega)]
      refine iT (dT (by omega)) ?_
      refine bS (by (try simp (disch := omega) only [fwI]); exact nd) ?_
      rw [dF (by omega)]
     ·refine (jS (v := ((a + 1 : Nat) : Int)) (fun j => ?_)).trans ?_
      ·refine iF rfl ?_
       rw [fw_s (by omega)]
      ·exact mac 1 (d :: q) j (by omega) hr
  rw [if_neg h63] at eo
  by_cases h3 : begN c = 3
  ·rw [if_pos h3] at eo
   rw [eo] at ol ⊢
   refine jC fun j => ?_
   refine iF rfl ?_
   refine bS (by (try simp (disch := omega) only [fwI]); exact bg) ?_
   refine iT (dT (by omega)) ?_
   refine bS (by (try simp (disch := omega) only [fwI]); exact rnumber_at (by omega) hs hl' (a := a) (by omega)) ?_
   by_cases h0 : (numN (s.drop a)).1 = 0
   ·rw [if_pos h0]
   ·rw [if_neg h0]
  rw [if_neg h3] at eo
  by_cases h12 : begN c = 1 ∨ begN c = 2
  ·rw [if_pos h12] at eo
   rw [eo] at ol ⊢
   refine (jS (v := (((if rsvN ((s.drop a).take (innN (s.drop a))) then 8 else begN c : Nat) : Int), (innN (s.drop a) : Int))) (fun j => ?_)).trans ?_
   ·refine iF rfl ?_
    refine bS (by (try simp (disch := omega) only [fwI]); exact bg) ?_
    refine iF (dF (by omega)) ?_
    refine bS (by (try simp (disch := omega) only [fwI]); exact bg) ?_
    refine iT (dT (by omega)) ?_
    refine bS (by (try simp (disch := omega) only [fwI]); exact bg) ?_
    refine bS (by (try simp (disch := omega) only [fwI]); exact rinner_at (k := k) (by omega) hs hl' (a := a) (by omega)) ?_
    rw [fw_d (n := a + innN (s.drop a)) (m := a) (by omega) (by omega), Nat.add_sub_cancel_left, fw_a (by omega) (by omega)]
    refine bS (by (try simp (disch := omega) only [fwI]); exact subMid (s := s) (i := a) (j := a + innN (s.drop a)) rfl rfl (by omega) (by omega)) ?_
    rw [List.drop_take, Nat.add_sub_cancel_left]
    refine bS (by (try simp (disch := omega) only [fwI]); exact rreserved_at (by omega) _) ?_
    cases rsvN ((s.drop a).take (innN (s.drop a))) <;> rfl
   ·exact out _ _ il
  ·rw [if_neg h12] at eo
   rw [eo] at ol ⊢
   refine (jS (v := (((9 : Nat) : Int), (lngN (s.drop a) : Int))) (fun j => ?_)).trans ?_
   ·refine iF rfl ?_
    refine bS (by (try simp (disch := omega) only [fwI]); exact bg) ?_
    refine iF (dF (by omega)) ?_
    refine bS (by (try simp (disch := omega) only [fwI]); exact bg) ?_
    refine iF (dF (by have := begN_le c; omega)) ?_
    refine iF (dF (by omega)) ?_
    refine iF (dF (by omega)) ?_
    refine iF (dF (by omega)) ?_
    refine iF (dF (by omega)) ?_
    refine bS (by (try simp (disch := omega) only [fwI]); exact rlongest_at (k := k) (by omega) hl' (a := a) (by omega)) ?_
    rfl
   ·exact out _ 9 ol
end Go.Proofs.Ytbmijiibfaacmaa.Am
set_option maxRecDepth 100000
set_option linter.unusedVariables false
set_option linter.unusedSimpArgs false
namespace Go.Proofs.Ytbmijiibfaacmaa.Am
open Go
theorem rscan_l (k : Nat) {s : List Nat} (hk : s.length + 40 < k) (hs : By s) (hl : Sz s) (h16 : s.length ≤ 65536) : ∀ (d f a : Nat) (acc : List S46), s.length < a + d → d < f → a ≤ s.length → acc.length ≤ a → g28_l5 k s f ((a + skipN (s.drop a) : Nat) : Int) acc = some (match toksN s d a with | some l => (acc ++ l.map (mkTok s), 0) | none => ([], 4))
 | 0, f, a, acc, h, hf, ha, hacc => by omega
 | d + 1, f, a, acc, h, hf, ha, hacc => by
  have hl' := hl
  unfold Sz at hl
  obtain ⟨f, rfl⟩ : ∃ f', f = f' + 1 := ⟨f - 1, by omega⟩
  rw [g28_l5_s]
  have sl := skipN_le (s.drop a)
  rw [List.length_drop] at sl
  unfold toksN
  have hab : a ≤ a + skipN (s.drop a) := Nat.le_add_right _ _
  have hbl : a + skipN (s.drop a) ≤ s.length := by omega
  generalize a + skipN (s.drop a) = b at *
  by_cases hb : s.length ≤ b
  ·rw [if_pos hb]
   refine iF (dF (by omega)) ?_
   simp only [List.map_nil, List.append_nil]
  ·rw [if_neg hb]
   refine iT (dT (by omega)) ?_
   refine bS (by (try simp (disch := omega) only [fwI]); exact rOne_at hk hs hl' (a := b) (by omega)) ?_
   have ol := oneN_le (s.drop b)
   rw [List.length_drop] at ol
   unfold oneAt
   by_cases h0 : (oneN (s.drop b)).1 = 0
   ·rw [if_pos h0, if_pos h0]; rfl
   ·rw [if_neg h0, if_neg h0]
    refine iF rfl ?_
    have ap : appS 32 acc [mkTok s ((oneN (s.drop b)).2, b, (oneN (s.drop b)).1)] = some (acc ++ [mkTok s ((oneN (s.drop b)).2, b, (oneN (s.drop b)).1)]) := by
     unfold appS
     rw [if_pos (by simp only [List.length_cons, List.length_nil]; omega)]
    refine bS (by (try simp (disch := omega) only [fwI]); exact ap) ?_
    have tl : ((s.drop b).take (oneN (s.drop b)).1).length = (oneN (s.drop b)).1 := by
     rw [List.length_take, List.length_drop]; omega
    show (g45 k s (fW .i64 ((b : Int) + (((s.drop b).take (oneN (s.drop b)).1).length : Int)))).bind _ = _
    rw [tl, fw_a (by omega) (by omega)]
    have hpos : 0 < (oneN (s.drop b)).1 := Nat.pos_of_ne_zero h0
    refine bS (by (try simp (disch := omega) only [fwI]); exact rblank_at (by omega) hs hl' (a := b + (oneN (s.drop b)).1) (by omega)) ?_
    refine (rscan_l k hk hs hl' h16 d f (b + (oneN (s.drop b)).1) _ (by omega) (by omega) (by omega) (by rw [List.length_append]; simp only [List.length_cons, List.length_nil]; omega)).trans ?_
    cases toksN s d (b + (oneN (s.drop b)).1) with
    | none => rfl
    | some l => simp only [Option.map_some, List.map_cons, List.append_assoc, List.singleton_append]
theorem rscan_at {k : Nat} {s : List Nat} (hk : s.length + 40 < k) (hs : By s) (hl : Sz s) : g28 k s = some (scanN s) := by
 have hl' := hl
 unfold Sz at hl
 unfold g28 scanN
 by_cases h16 : 65536 < s.length
 ·rw [if_pos h16]
  refine iT (dT (by omega)) rfl
 ·rw [if_neg h16]
  refine iF (dF (by omega)) ?_
  refine bS (by (try simp (disch := omega) only [fwI]); exact valid_at44 (by omega) hs hl') ?_
  cases hv : vld s.length s with
  | false => rfl
  | true =>
   refine iF rfl ?_
   have rb := rblank_at (k := k) (by omega) hs hl' (a := 0) (by omega)
   refine bS (by (try simp (disch := omega) only [fwI]); exact rb) ?_
   refine (rscan_l k hk hs hl' (by omega) (s.length + 1) k 0 [] (by omega) (by omega) (by omega) (Nat.le_refl _)).trans ?_
   simp only [Bool.true_eq_false, if_false]
   cases toksN s (s.length + 1) 0 <;> rfl
end Go.Proofs.Ytbmijiibfaacmaa.Am
set_option maxRecDepth 100000
set_option linter.unusedVariables false
namespace Go.Proofs.Ytbmijiibfaacmaa.Am
noncomputable section
open Go
def X38 : Fx Int := ⟨Try.prog, cx, Try.f38, fun r => .int .i64 r, 0, fun _ => H0, cxTi, cxOrd⟩
def g38 (k : Nat) (a0 : S46) : Option Int :=
 some (fW .i64 (a0.f2 + (a0.f1.length : Int)))
theorem g38_ok (k : Nat) (a0 : S46) (r : Int) (h : g38 k a0 = some r) : PureOk Try.prog 38 [.agg [.int .i64 a0.f0, .str a0.f1, .int .i64 a0.f2]] (.int .i64 r) := by
 refine pure_of X38 (fun _ => rfl) Try.func38 (by decide +kernel) (by kernel_rfl) (t := g38 k a0) ?_ h
 unfold g38
 refine oE (eE := [(0, .agg [.int .i64 a0.f0, .str a0.f1, .int .i64 a0.f2])]) (by kernel_rfl) ?_
 let E1 : Env := [(2, .int .i64 (fW .i64 (a0.f2 + (a0.f1.length : Int)))), (8, .int .i64 (fW .i64 (a0.f2 + (a0.f1.length : Int)))), (7, .int .i64 (a0.f1.length : Int)), (6, .str a0.f1), (5, .ptr 0 3 1), (4, .int .i64 a0.f2), (3, .ptr 0 3 2), (2, .int .i64 0), (1, .ptr 0 3 0), (0, .agg [.int .i64 a0.f0, .str a0.f1, .int .i64 a0.f2])]
 refine oR 16 (p' := .fin) (eE := E1) (H' := (mkH [⟨[.int .i64 a0.f0, .str a0.f1, .int .i64 a0.f2], 0, false⟩])) (by kernel_rfl) ?_
 exact oT (r := (fW .i64 (a0.f2 + (a0.f1.length : Int)))) (xs := [.int .i64 (fW .i64 (a0.f2 + (a0.f1.length : Int)))]) (v := .int .i64 (fW .i64 (a0.f2 + (a0.f1.length : Int)))) (by kernel_rfl) (by kernel_rfl) (by kernel_rfl) (.pures (by kernel_rfl)) (by kernel_rfl)
end
end Go.Proofs.Ytbmijiibfaacmaa.Am
set_option maxRecDepth 100000
set_option linter.unusedVariables false
namespace Go.Proofs.Ytbmijiibfaacmaa.Am
noncomputable section
open Go
def X66 : Fx Bool := ⟨Try.prog, cx, Try.f66, fun r => .bool r, 0, fun _ => H0, cxTi, cxOrd⟩
def g66p0 : Pt := nav [0] (bodyAt Try.f66)
def g66p1 : Pt := nav [0, 0, 0] g66p0
def g66 (k : Nat) (a0 : (List Nat)) (a1 : S46) : Option Bool :=
 if (decide (0 ≤ a1.f2)) then (if (decide (a1.f2 ≤ (a0.length : Int))) then (some (decide ((a1.f1.length : Int) ≤ fW .i64 ((a0.length : Int) - a1.f2)))) else (some false)) else (some false)
theorem g66_ok (k : Nat) (a0 : (List Nat)) (a1 : S46) (r : Bool) (h : g66 k a0 a1 = some r) : PureOk Try.prog 66 [.str a0, .agg [.int .i64 a1.f0, .str a1.f1, .int .i64 a1.f2]] (.bool r) := by
 refine pure_of X66 (fun _ => rfl) Try.func66 (by decide +kernel) (by kernel_rfl) (t := g66 k a0 a1) ?_ h
 unfold g66
 refine oE (eE := [(0, .str a0), (1, .agg [.int .i64 a1.f0, .str a1.f1, .int .i64 a1.f2])]) (by kernel_rfl) ?_
 let E1 : Env := [(8, .bool (decide (0 ≤ a1.f2))), (7, .bool (decide (0 ≤ a1.f2))), (6, .int .i64 a1.f2), (5, .ptr 0 3 2), (4, .bool false), (3, .ptr 0 3 0), (0, .str a0), (1, .agg [.int .i64 a1.f0, .str a1.f1, .int .i64 a1.f2])]
 refine oR 11 (p' := (atN 4 (ctl1 g66p1))) (eE := E1) (H' := (mkH [⟨[.int .i64 a1.f0, .str a1.f1, .int .i64 a1.f2], 0, false⟩])) (by kernel_rfl) ?_
 refine oS 8 (b := decide (0 ≤ a1.f2)) (by kernel_rfl) (fun hb => ?_) (fun hb => ?_)
 ·let E2 : Env := ((15, .bool (decide (a1.f2 ≤ (a0.length : Int)))) :: (14, .bool (decide (a1.f2 ≤ (a0.length : Int)))) :: (13, .bool (decide (a1.f2 ≤ (a0.length : Int)))) :: (12, .int .i64 (a0.length : Int)) :: (11, .str a0) :: (10, .int .i64 a1.f2) :: (9, .ptr 0 3 2) :: (8, .bool true) :: E1)
  refine oR 7 (p' := (atN 11 (ctl1 g66p1))) (eE := E2) (H' := (mkH [⟨[.int .i64 a1.f0, .str a1.f1, .int .i64 a1.f2], 0, false⟩])) (by kernel_rfl) ?_
  refine oS 15 (b := decide (a1.f2 ≤ (a0.length : Int))) (by kernel_rfl) (fun hb => ?_) (fun hb => ?_)
  ·let E3 : Env := ((4, .bool (decide ((a1.f1.length : Int) ≤ fW .i64 ((a0.length : Int) - a1.f2)))) :: (25, .bool (decide ((a1.f1.length : Int) ≤ fW .i64 ((a0.length : Int) - a1.f2)))) :: (24, .bool (decide ((a1.f1.length : Int) ≤ fW .i64 ((a0.length : Int) - a1.f2)))) :: (23, .int .i64 (fW .i64 ((a0.length : Int) - a1.f2))) :: (22, .int .i64 a1.f2) :: (21, .ptr 0 3 2) :: (20, .int .i64 (a0.length : Int)) :: (19, .str a0) :: (18, .int .i64 (a1.f1.length : Int)) :: (17, .str a1.f1) :: (16, .ptr 0 3 1) :: (15, .bool true) :: E2)
   refine oR 13 (p' := .fin) (eE := E3) (H' := (mkH [⟨[.int .i64 a1.f0, .str a1.f1, .int .i64 a1.f2], 0, false⟩])) (by kernel_rfl) ?_
   exact oT (r := (decide ((a1.f1.length : Int) ≤ fW .i64 ((a0.length : Int) - a1.f2)))) (xs := [.bool (decide ((a1.f1.length : Int) ≤ fW .i64 ((a0.length : Int) - a1.f2)))]) (v := .bool (decide ((a1.f1.length : Int) ≤ fW .i64 ((a0.length : Int) - a1.f2)))) (by kernel_rfl) (by kernel_rfl) (by kernel_rfl) (.pures (by kernel_rfl)) (by kernel_rfl)
  ·let E4 : Env := ((4, .bool false) :: (25, .bool false) :: (24, .tuple []) :: (23, .tuple []) :: (22, .tuple []) :: (21, .tuple []) :: (20, .tuple []) :: (19, .tuple []) :: (18, .tuple []) :: (17, .tuple []) :: (16, .tuple []) :: (15, .bool false) :: E2)
   refine oR 13 (p' := .fin) (eE := E4) (H' := (mkH [⟨[.int .i64 a1.f0, .str a1.f1, .int .i64 a1.f2], 0, false⟩])) (by kernel_rfl) ?_
   exact oT (r := false) (xs := [.bool false]) (v := .bool false) (by kernel_rfl) (by kernel_rfl) (by kernel_rfl) (.pures (by kernel_rfl)) (by kernel_rfl)
 ·let E5 : Env := ((4, .bool false) :: (25, .bool false) :: (24, .tuple []) :: (23, .tuple []) :: (22, .tuple []) :: (21, .tuple []) :: (20, .tuple []) :: (19, .tuple []) :: (18, .tuple []) :: (17, .tuple []) :: (16, .tuple []) :: (15, .bool false) :: (14, .bool false) :: (13, .tuple []) :: (12, .tuple []) :: (11, .tuple []) :: (10, .tuple []) :: (9, .tuple []) :: (8, .bool false) :: E1)
  refine oR 20 (p' := .fin) (eE := E5) (H' := (mkH [⟨[.int .i64 a1.f0, .str a1.f1, .int .i64 a1.f2], 0, false⟩])) (by kernel_rfl) ?_
  exact oT (r := false) (xs := [.bool false]) (v := .bool false) (by kernel_rfl) (by kernel_rfl) (by kernel_rfl) (.pures (by kernel_rfl)) (by kernel_rfl)
end
end Go.Proofs.Ytbmijiibfaacmaa.Am
set_option maxRecDepth 100000
set_option linter.unusedVariables false
namespace Go.Proofs.Ytbmijiibfaacmaa.Am
noncomputable section
open Go
def X49 : Fx Int := ⟨Try.prog, cx, Try.f49, fun r => .int .i64 r, 0, fun _ => H0, cxTi, cxOrd⟩
def X49f67_0 (a_0 : Int) (b_1 : Int) : Fx Int := ⟨Try.prog, cx, Try.f67, fun r => .tuple [], 1, fun r => (mkH [⟨[.int .i64 r], 1, false⟩]), cxTi, cxOrd⟩
def g49f67_0p0 : Pt := nav [0] (bodyAt Try.f67)
def g49f67_0p1 : Pt := nav [0, 0] g49f67_0p0
def g49f67_0 (k : Nat) (a_0 : Int) (b_1 : Int) : Option Int :=
 if (decide (a_0 = 10)) then (some (fW .i64 (b_1 + 1))) else (some b_1)
theorem g49f67_0_ok (k : Nat) (a_0 : Int) (b_1 : Int) (r : Int) (h : g49f67_0 k a_0 b_1 = some r) : CallV Try.prog 67 [.int .u8 a_0, .ptr 0 1 0] (mkH [⟨[.int .i64 b_1], 1, false⟩]) (.tuple []) (mkH [⟨[.int .i64 r], 1, false⟩]) := by
 refine callM_of (X49f67_0 a_0 b_1) Try.func67 (by kernel_rfl) (by kernel_rfl) rfl (t := g49f67_0 k a_0 b_1) ?_ h
 unfold g49f67_0
 refine oE (eE := [(0, .int .u8 a_0), (1, .ptr 0 1 0)]) (by kernel_rfl) ?_
 refine oR 5 (p' := g49f67_0p1) (eE := [(4, .bool (decide (a_0 = 10))), (3, .int .u8 a_0), (0, .int .u8 a_0), (1, .ptr 0 1 0)]) (H' := (mkH [⟨[.int .i64 b_1], 1, false⟩])) (by kernel_rfl) ?_
 refine oS 4 (b := decide (a_0 = 10)) (by kernel_rfl) (fun hb => ?_) (fun hb => ?_)
 ·let E1 : Env := [(6, .int .i64 (fW .i64 (b_1 + 1))), (5, .int .i64 b_1), (4, .bool true), (4, .bool (decide (a_0 = 10))), (3, .int .u8 a_0), (0, .int .u8 a_0), (1, .ptr 0 1 0)]
  refine oR 6 (p' := .fin) (eE := E1) (H' := (mkH [⟨[.int .i64 (fW .i64 (b_1 + 1))], 1, false⟩])) (by kernel_rfl) ?_
  refine oK [] (eE := []) (by kernel_rfl) ?_
  exact ok_retM (r := (fW .i64 (b_1 + 1))) (xs := []) (by kernel_rfl) (by kernel_rfl) (by kernel_rfl) (by kernel_rfl)
 ·let E2 : Env := [(4, .bool false), (4, .bool (decide (a_0 = 10))), (3, .int .u8 a_0), (0, .int .u8 a_0), (1, .ptr 0 1 0)]
  refine oR 2 (p' := .fin) (eE := E2) (H' := (mkH [⟨[.int .i64 b_1], 1, false⟩])) (by kernel_rfl) ?_
  refine oK [] (eE := []) (by kernel_rfl) ?_
  exact ok_retM (r := b_1) (xs := []) (by kernel_rfl) (by kernel_rfl) (by kernel_rfl) (by kernel_rfl)
def g49p0 : Pt := nav [0] (bodyAt Try.f49)
def g49p1 : Pt := nav [0, 0, 0, 0] g49p0
def g49p2 : Pt := nav [0] g49p1
def g49p4 : Pt := nav [2, 0, 0] g49p2
def g49p6 : Pt := nav [0, 0, 0] g49p4
def g49p7 : Pt := nav [0, 0, 0, 0] g49p6
def g49p8 : Pt := nav [0, 0, 0, 0] g49p7
def g49p9 : Pt := nav [0, 0, 0] g49p8
def g49p10 : Pt := nav [0, 0] g49p9
def g49p11 : Pt := nav [1, 0, 0, 0] g49p10
def g49p13 : Pt := nav [0, 0] g49p11
def g49_l5 (k : Nat)  (a0 : (List Nat)) (a1 : (List S46)) (a2 : Int) (n : Nat) : Int → Int → Option Int :=
 Nat.rec (motive := fun _ => Int → Int → Option Int) (fun _ _ => none) (fun _ ih => fun (y5_0 : Int) (y5_1 : Int) => (nthL a1 a2).bind fun x2_3 => if (decide (y5_0 < x2_3.f2)) then ((nthS a0 y5_0).bind fun x3_3 => (g49f67_0 k x3_3 y5_1).bind fun x3_4 => ih (fW .i64 (y5_0 + 1)) x3_4) else (some y5_1)) n
theorem g49_l5_s (k : Nat)  (a0 : (List Nat)) (a1 : (List S46)) (a2 : Int) (n : Nat) (y5_0 : Int) (y5_1 : Int) : g49_l5 k a0 a1 a2 (n + 1) y5_0 y5_1 = ((nthL a1 a2).bind fun x2_3 => if (decide (y5_0 < x2_3.f2)) then ((nthS a0 y5_0).bind fun x3_3 => (g49f67_0 k x3_3 y5_1).bind fun x3_4 => (g49_l5 k a0 a1 a2 n) (fW .i64 (y5_0 + 1)) x3_4) else (some y5_1)) := rfl
theorem g49_l5_ok (k : Nat)  (a0 : (List Nat)) (a1 : (List S46)) (a2 : Int)  : ∀ (n : Nat) (y5_0 : Int) (y5_1 : Int), Ok X49 g49p8 [(0, .str a0), (1, .vec (a1).length 3 ((a1).flatMap e47)), (2, .int .i64 a2), (7, .ptr 0 1 0), (8, .func 67 [] [.ptr 0 1 0]), (9, .int .i64 y5_0)] (mkH [⟨[.int .i64 y5_1], 1, false⟩]) (g49_l5 k a0 a1 a2 n y5_0 y5_1)
 | 0, _, _ => ok_none
 | n + 1, y5_0, y5_1 => by
  have ih := g49_l5_ok k a0 a1 a2 n
  rw [g49_l5_s]
  refine ok_ent (p' := nav [0] g49p8) (by kernel_rfl) ?_
  let E3 : Env := [(60, .int .i64 a2), (59, .vec (a1).length 3 ((a1).flatMap e47)), (58, .int .i64 y5_0), (0, .str a0), (1, .vec (a1).length 3 ((a1).flatMap e47)), (2, .int .i64 a2), (7, .ptr 0 1 0), (8, .func 67 [] [.ptr 0 1 0]), (9, .int .i64 y5_0)]
  refine oR 6 (p' := (atN 3 (ctl1 g49p9))) (eE := E3) (H' := (mkH [⟨[.int .i64 y5_1], 1, false⟩])) (by kernel_rfl) ?_
  refine oH (fun (x2_3 : S46) => (.vptr [.int .i64 x2_3.f0, .str x2_3.f1, .int .i64 x2_3.f2], (mkH [⟨[.int .i64 y5_1], 1, false⟩]))) (atN 4 (ctl1 g49p9)) (fun x2_3 => ((61, .vptr [.int .i64 x2_3.f0, .str x2_3.f1, .int .i64 x2_3.f2]) :: E3)) (vidxH (sz := 3) e47_len (by kernel_rfl)) (fun _ => by kernel_rfl) (fun x2_3 hx2_3 => ?_)
  refine oR 4 (p' := g49p10) (eE := ((64, .bool (decide (y5_0 < x2_3.f2))) :: (63, .int .i64 x2_3.f2) :: (62, .vptr [.int .i64 x2_3.f2]) :: (61, .vptr [.int .i64 x2_3.f0, .str x2_3.f1, .int .i64 x2_3.f2]) :: E3)) (H' := (mkH [⟨[.int .i64 y5_1], 1, false⟩])) (by kernel_rfl) ?_
  refine oS 64 (b := decide (y5_0 < x2_3.f2)) (by kernel_rfl) (fun hb => ?_) (fun hb => ?_)
  ·let E4 : Env := ((69, .int .i64 y5_0) :: (68, .str a0) :: (67, .func 67 [] [.ptr 0 1 0]) :: (64, .bool true) :: (64, .bool (decide (y5_0 < x2_3.f2))) :: (63, .int .i64 x2_3.f2) :: (62, .vptr [.int .i64 x2_3.f2]) :: (61, .vptr [.int .i64 x2_3.f0, .str x2_3.f1, .int .i64 x2_3.f2]) :: E3)
   refine oR 8 (p' := (atN 3 (ctl1 g49p11))) (eE := E4) (H' := (mkH [⟨[.int .i64 y5_1], 1, false⟩])) (by kernel_rfl) ?_
   refine oH (fun (x3_3 : Int) => (.int .u8 x3_3, (mkH [⟨[.int .i64 y5_1], 1, false⟩]))) (atN 4 (ctl1 g49p11)) (fun x3_3 => ((70, .int .u8 x3_3) :: E4)) (idxH (by kernel_rfl)) (fun _ => by kernel_rfl) (fun x3_3 hx3_3 => ?_)
   refine ok_callM (fun (x3_4 : Int) => .tuple []) (fun (x3_4 : Int) => (mkH [⟨[.int .i64 x3_4], 1, false⟩])) (atN 5 (ctl1 g49p11)) (fun x3_4 => ((71, .tuple []) :: (70, .int .u8 x3_3) :: E4)) (fi := 67) (args := [.int .u8 x3_3, .ptr 0 1 0]) (by kernel_rfl) (fun r h => g49f67_0_ok k x3_3 y5_1 r h) (fun _ => by kernel_rfl) (fun x3_4 hx3_4 => ?_)
   refine oR 1 (p' := g49p13) (eE := ((71, .tuple []) :: (70, .int .u8 x3_3) :: E4)) (H' := (mkH [⟨[.int .i64 x3_4], 1, false⟩])) (by kernel_rfl) ?_
   refine oK [0, 1, 2, 7, 8, 9] (eE := [(0, .str a0), (1, .vec (a1).length 3 ((a1).flatMap e47)), (2, .int .i64 a2), (7, .ptr 0 1 0), (8, .func 67 [] [.ptr 0 1 0]), (9, .int .i64 y5_0)]) (by kernel_rfl) ?_
   let E5 : Env := [(9, .int .i64 (fW .i64 (y5_0 + 1))), (66, .int .i64 (fW .i64 (y5_0 + 1))), (65, .int .i64 y5_0), (0, .str a0), (1, .vec (a1).length 3 ((a1).flatMap e47)), (2, .int .i64 a2), (7, .ptr 0 1 0), (8, .func 67 [] [.ptr 0 1 0]), (9, .int .i64 y5_0)]
   refine oR 5 (p' := g49p8) (eE := E5) (H' := (mkH [⟨[.int .i64 x3_4], 1, false⟩])) (by kernel_rfl) ?_
   refine oK [0, 1, 2, 7, 8, 9] (eE := [(0, .str a0), (1, .vec (a1).length 3 ((a1).flatMap e47)), (2, .int .i64 a2), (7, .ptr 0 1 0), (8, .func 67 [] [.ptr 0 1 0]), (9, .int .i64 (fW .i64 (y5_0 + 1)))]) (by kernel_rfl) ?_
   exact ih (fW .i64 (y5_0 + 1)) x3_4
  ·let E6 : Env := ((6, .int .i64 y5_1) :: (72, .int .i64 y5_1) :: (64, .bool false) :: (64, .bool (decide (y5_0 < x2_3.f2))) :: (63, .int .i64 x2_3.f2) :: (62, .vptr [.int .i64 x2_3.f2]) :: (61, .vptr [.int .i64 x2_3.f0, .str x2_3.f1, .int .i64 x2_3.f2]) :: E3)
   refine oR 8 (p' := .fin) (eE := E6) (H' := (mkH [⟨[.int .i64 y5_1], 1, false⟩])) (by kernel_rfl) ?_
   exact oT (r := y5_1) (xs := [.int .i64 y5_1]) (v := .int .i64 y5_1) (by kernel_rfl) (by kernel_rfl) (by kernel_rfl) (.pures (by kernel_rfl)) (by kernel_rfl)
def g49 (k : Nat) (a0 : (List Nat)) (a1 : (List S46)) (a2 : Int) : Option Int :=
 jn (fun (z4 : Bool) => if z4 then (some (0 : Int)) else ((nthL a1 (fW .i64 (a2 - 1))).bind fun x1_3 => (g38 k (⟨x1_3.f0, x1_3.f1, x1_3.f2⟩ : S46)).bind fun x1_5 => g49_l5 k a0 a1 a2 k x1_5 0)) (fun j4 => if (decide (a2 < 1)) then (j4 true) else (if (decide ((a1.length : Int) ≤ a2)) then (j4 true) else ((nthL a1 (fW .i64 (a2 - 1))).bind fun x0_13 => (g66 k a0 (⟨x0_13.f0, x0_13.f1, x0_13.f2⟩ : S46)).bind fun x0_15 => if (!x0_15) then (j4 true) else ((nthL a1 a2).bind fun x0_22 => (g66 k a0 (⟨x0_22.f0, x0_22.f1, x0_22.f2⟩ : S46)).bind fun x0_24 => if (!x0_24) then (j4 true) else ((nthL a1 (fW .i64 (a2 - 1))).bind fun x0_31 => (g38 k (⟨x0_31.f0, x0_31.f1, x0_31.f2⟩ : S46)).bind fun x0_33 => (nthL a1 a2).bind fun x0_36 => j4 (decide (x0_36.f2 < x0_33)))))))
theorem g49_ok (k : Nat) (a0 : (List Nat)) (a1 : (List S46)) (a2 : Int) (r : Int) (h : g49 k a0 a1 a2 = some r) : PureOk Try.prog 49 [.str a0, .vec (a1).length 3 ((a1).flatMap e47), .int .i64 a2] (.int .i64 r) := by
 refine pure_of X49 (fun _ => rfl) Try.func49 (by decide +kernel) (by kernel_rfl) (t := g49 k a0 a1 a2) ?_ h
 unfold g49
 refine oE (eE := [(0, .str a0), (1, .vec (a1).length 3 ((a1).flatMap e47)), (2, .int .i64 a2)]) (by kernel_rfl) ?_
 refine oR 6 (p' := g49p1) (eE := [(6, .int .i64 0), (0, .str a0), (1, .vec (a1).length 3 ((a1).flatMap e47)), (2, .int .i64 a2)]) (H' := (mkH [])) (by kernel_rfl) ?_
 refine oJ (f := fun (z4 : Bool) => if z4 then (some (0 : Int)) else ((nthL a1 (fW .i64 (a2 - 1))).bind fun x1_3 => (g38 k (⟨x1_3.f0, x1_3.f1, x1_3.f2⟩ : S46)).bind fun x1_5 => g49_l5 k a0 a1 a2 k x1_5 0)) g49p2 (fun (z4 : Bool) => [(0, .str a0), (1, .vec (a1).length 3 ((a1).flatMap e47)), (2, .int .i64 a2), (50, .bool z4)]) (fun (z4 : Bool) => (mkH [])) (fun z4 => ?_) (fun j4 hj4 => ?_)
 ·refine oS 50 (b := z4) (by kernel_rfl) (fun hb => ?_) (fun hb => ?_)
  ·let E1 : Env := [(6, .int .i64 0), (50, .bool true), (0, .str a0), (1, .vec (a1).length 3 ((a1).flatMap e47)), (2, .int .i64 a2), (50, .bool z4)]
   refine oR 6 (p' := .fin) (eE := E1) (H' := (mkH [])) (by kernel_rfl) ?_
   exact oT (r := (0 : Int)) (xs := [.int .i64 0]) (v := .int .i64 0) (by kernel_rfl) (by kernel_rfl) (by kernel_rfl) (.pures (by kernel_rfl)) (by kernel_rfl)
  ·let E2 : Env := [(54, .int .i64 (fW .i64 (a2 - 1))), (53, .int .i64 a2), (52, .vec (a1).length 3 ((a1).flatMap e47)), (8, .func 67 [] [.ptr 0 1 0]), (51, .func 67 [] [.ptr 0 1 0]), (7, .ptr 0 1 0), (50, .bool false), (0, .str a0), (1, .vec (a1).length 3 ((a1).flatMap e47)), (2, .int .i64 a2), (50, .bool z4)]
   refine oR 18 (p' := (atN 3 (ctl1 g49p7))) (eE := E2) (H' := (mkH [⟨[.int .i64 0], 1, false⟩])) (by kernel_rfl) ?_
   refine oH (fun (x1_3 : S46) => (.vptr [.int .i64 x1_3.f0, .str x1_3.f1, .int .i64 x1_3.f2], (mkH [⟨[.int .i64 0], 1, false⟩]))) (atN 4 (ctl1 g49p7)) (fun x1_3 => ((55, .vptr [.int .i64 x1_3.f0, .str x1_3.f1, .int .i64 x1_3.f2]) :: E2)) (vidxH (sz := 3) e47_len (by kernel_rfl)) (fun _ => by kernel_rfl) (fun x1_3 hx1_3 => ?_)
   refine oR 1 (p' := (atN 5 (ctl1 g49p7))) (eE := ((56, .agg [.int .i64 x1_3.f0, .str x1_3.f1, .int .i64 x1_3.f2]) :: (55, .vptr [.int .i64 x1_3.f0, .str x1_3.f1, .int .i64 x1_3.f2]) :: E2)) (H' := (mkH [⟨[.int .i64 0], 1, false⟩])) (by kernel_rfl) ?_
   refine oC (fun (x1_5 : Int) => .int .i64 x1_5) (atN 6 (ctl1 g49p7)) (fun x1_5 => ((57, .int .i64 x1_5) :: (56, .agg [.int .i64 x1_3.f0, .str x1_3.f1, .int .i64 x1_3.f2]) :: (55, .vptr [.int .i64 x1_3.f0, .str x1_3.f1, .int .i64 x1_3.f2]) :: E2)) (fi := 38) (args := [.agg [.int .i64 x1_3.f0, .str x1_3.f1, .int .i64 x1_3.f2]]) (by kernel_rfl) (by kernel_rfl) (fun _ => by kernel_rfl) (fun r h => g38_ok k (⟨x1_3.f0, x1_3.f1, x1_3.f2⟩ : S46) r h) (fun _ => by kernel_rfl) (fun x1_5 hx1_5 => ?_)
   refine oR 4 (p' := g49p8) (eE := ((9, .int .i64 x1_5) :: (57, .int .i64 x1_5) :: (56, .agg [.int .i64 x1_3.f0, .str x1_3.f1, .int .i64 x1_3.f2]) :: (55, .vptr [.int .i64 x1_3.f0, .str x1_3.f1, .int .i64 x1_3.f2]) :: E2)) (H' := (mkH [⟨[.int .i64 0], 1, false⟩])) (by kernel_rfl) ?_
   refine oK [0, 1, 2, 7, 8, 9] (eE := [(0, .str a0), (1, .vec (a1).length 3 ((a1).flatMap e47)), (2, .int .i64 a2), (7, .ptr 0 1 0), (8, .func 67 [] [.ptr 0 1 0]), (9, .int .i64 x1_5)]) (by kernel_rfl) ?_
   exact (g49_l5_ok k a0 a1 a2 k) x1_5 0
 ·refine ok_if (fun hb4 => ?_) (fun hb4 => ?_)
  ·let E7 : Env := [(12, .bool (decide (a2 < 1))), (11, .bool (decide (a2 < 1))), (10, .int .i64 a2), (6, .int .i64 0), (0, .str a0), (1, .vec (a1).length 3 ((a1).flatMap e47)), (2, .int .i64 a2)]
   let E8 : Env := [(50, .bool true), (49, .tuple []), (48, .tuple []), (47, .tuple []), (46, .tuple []), (45, .tuple []), (44, .tuple []), (43, .tuple []), (42, .tuple []), (41, .tuple []), (40, .tuple []), (39, .tuple []), (38, .tuple []), (37, .bool true), (36, .bool true), (35, .tuple []), (34, .tuple []), (33, .tuple []), (32, .tuple []), (31, .tuple []), (30, .tuple []), (29, .tuple []), (28, .bool true), (27, .bool true), (26, .tuple []), (25, .tuple []), (24, .tuple []), (23, .tuple []), (22, .tuple []), (21, .tuple []), (20, .tuple []), (19, .tuple []), (18, .bool true), (17, .bool true), (16, .tuple []), (15, .tuple []), (14, .tuple []), (13, .tuple []), (12, .bool true), (11, .bool true), (10, .int .i64 a2), (6, .int .i64 0), (0, .str a0), (1, .vec (a1).length 3 ((a1).flatMap e47)), (2, .int .i64 a2)]
   refine ok_draw (p' := nav [0] g49p1) (eE := E8) (H' := (mkH [])) (hs := [(mkH []), (mkH []), (mkH [])]) [(0, 0, 0), (1, 0, 0), (3, 0, 0), (7, 0, 0), (7, 0, 0), (23, 0, 0), (63, 0, 0), (127, 0, 0), (255, 0, 0), (511, 0, 0), (511, 0, 0), (511, 0, 0), (2559, 0, 0), (7679, 0, 0), (15871, 0, 0), (32767, 0, 0), (65535, 0, 0), (131071, 0, 0), (262143, 0, 0), (524287, 0, 0), (524287, 0, 0), (524287, 0, 0), (3670015, 0, 0), (7864319, 1, 1), (16777215, 0, 0), (33554431, 0, 0), (67108863, 0, 0), (134217727, 0, 0), (268435455, 0, 0), (268435455, 0, 0), (805306367, 0, 0), (2147483647, 0, 0), (4294967295, 2, 2), (8589934591, 0, 0), (268435455, 0, 0), (268435455, 0, 0), (51808043007, 0, 0), (120527519743, 0, 0), (257966473215, 2, 3), (549755813887, 0, 0), (1099511627775, 0, 0)] (by kernel_rfl) (by kernel_rfl) (by kernel_rfl) (opsD_run 3 (l' := (opsAt g49p1).toList.drop 3) (eE := E7) (H' := (mkH [])) (hs := []) (by kernel_rfl) (opsD_env (eE := [(12, .bool true), (11, .bool true), (10, .int .i64 a2), (6, .int .i64 0), (0, .str a0), (1, .vec (a1).length 3 ((a1).flatMap e47)), (2, .int .i64 a2)]) (congrArg (fun z : Bool => ([(12, .bool z), (11, .bool z), (10, .int .i64 a2), (6, .int .i64 0), (0, .str a0), (1, .vec (a1).length 3 ((a1).flatMap e47)), (2, .int .i64 a2)] : Env)) hb4) (opsD_run 38 (l' := (opsAt g49p1).toList.drop 41) (eE := E8) (H' := (mkH [])) (hs := [(mkH []), (mkH []), (mkH [])]) (by kernel_rfl) (.nil)))) (by kernel_rfl) (by kernel_rfl) (by kernel_rfl) ?_
   refine oK [0, 1, 2, 50] (eE := [(0, .str a0), (1, .vec (a1).length 3 ((a1).flatMap e47)), (2, .int .i64 a2), (50, .bool true)]) (by kernel_rfl) ?_
   exact hj4 true
  ·refine ok_if (fun hb5 => ?_) (fun hb5 => ?_)
   ·let E7 : Env := [(12, .bool (decide (a2 < 1))), (11, .bool (decide (a2 < 1))), (10, .int .i64 a2), (6, .int .i64 0), (0, .str a0), (1, .vec (a1).length 3 ((a1).flatMap e47)), (2, .int .i64 a2)]
    let E9 : Env := [(18, .bool (decide ((a1.length : Int) ≤ a2))), (17, .bool (decide ((a1.length : Int) ≤ a2))), (16, .bool (decide ((a1.length : Int) ≤ a2))), (15, .int .i64 (a1.length : Int)), (14, .vec (a1).length 3 ((a1).flatMap e47)), (13, .int .i64 a2), (12, .bool false), (11, .bool false), (10, .int .i64 a2), (6, .int .i64 0), (0, .str a0), (1, .vec (a1).length 3 ((a1).flatMap e47)), (2, .int .i64 a2)]
    let E10 : Env := [(50, .bool true), (49, .tuple []), (48, .tuple []), (47, .tuple []), (46, .tuple []), (45, .tuple []), (44, .tuple []), (43, .tuple []), (42, .tuple []), (41, .tuple []), (40, .tuple []), (39, .tuple []), (38, .tuple []), (37, .bool true), (36, .bool true), (35, .tuple []), (34, .tuple []), (33, .tuple []), (32, .tuple []), (31, .tuple []), (30, .tuple []), (29, .tuple []), (28, .bool true), (27, .bool true), (26, .tuple []), (25, .tuple []), (24, .tuple []), (23, .tuple []), (22, .tuple []), (21, .tuple []), (20, .tuple []), (19, .tuple []), (18, .bool true), (17, .bool true), (16, .bool true), (15, .int .i64 (a1.length : Int)), (14, .vec (a1).length 3 ((a1).flatMap e47)), (13, .int .i64 a2), (12, .bool false), (11, .bool false), (10, .int .i64 a2), (6, .int .i64 0), (0, .str a0), (1, .vec (a1).length 3 ((a1).flatMap e47)), (2, .int .i64 a2)]
    refine ok_draw (p' := nav [0] g49p1) (eE := E10) (H' := (mkH [])) (hs := [(mkH []), (mkH []), (mkH [])]) [(0, 0, 0), (1, 0, 0), (3, 0, 0), (7, 0, 0), (7, 0, 0), (23, 0, 0), (63, 0, 0), (127, 0, 0), (255, 0, 0), (511, 0, 0), (511, 0, 0), (511, 0, 0), (2559, 0, 0), (7679, 0, 0), (15871, 0, 0), (32767, 0, 0), (65535, 0, 0), (131071, 0, 0), (262143, 0, 0), (524287, 0, 0), (524287, 0, 0), (524287, 0, 0), (3670015, 0, 0), (7864319, 1, 1), (16777215, 0, 0), (33554431, 0, 0), (67108863, 0, 0), (134217727, 0, 0), (268435455, 0, 0), (268435455, 0, 0), (805306367, 0, 0), (2147483647, 0, 0), (4294967295, 2, 2), (8589934591, 0, 0), (268435455, 0, 0), (268435455, 0, 0), (51808043007, 0, 0), (120527519743, 0, 0), (257966473215, 2, 3), (549755813887, 0, 0), (1099511627775, 0, 0)] (by kernel_rfl) (by kernel_rfl) (by kernel_rfl) (opsD_run 3 (l' := (opsAt g49p1).toList.drop 3) (eE := E7) (H' := (mkH [])) (hs := []) (by kernel_rfl) (opsD_env (eE := [(12, .bool false), (11, .bool false), (10, .int .i64 a2), (6, .int .i64 0), (0, .str a0), (1, .vec (a1).length 3 ((a1).flatMap e47)), (2, .int .i64 a2)]) (congrArg (fun z : Bool => ([(12, .bool z), (11, .bool z), (10, .int .i64 a2), (6, .int .i64 0), (0, .str a0), (1, .vec (a1).length 3 ((a1).flatMap e47)), (2, .int .i64 a2)] : Env)) hb4) (opsD_run 6 (l' := (opsAt g49p1).toList.drop 9) (eE := E9) (H' := (mkH [])) (hs := []) (by kernel_rfl) (opsD_env (eE := [(18, .bool true), (17, .bool true), (16, .bool true), (15, .int .i64 (a1.length : Int)), (14, .vec (a1).length 3 ((a1).flatMap e47)), (13, .int .i64 a2), (12, .bool false), (11, .bool false), (10, .int .i64 a2), (6, .int .i64 0), (0, .str a0), (1, .vec (a1).length 3 ((a1).flatMap e47)), (2, .int .i64 a2)]) (congrArg (fun z : Bool => ([(18, .bool z), (17, .bool z), (16, .bool z), (15, .int .i64 (a1.length : Int)), (14, .vec (a1).length 3 ((a1).flatMap e47)), (13, .int .i64 a2), (12, .bool false), (11, .bool false), (10, .int .i64 a2), (6, .int .i64 0), (0, .str a0), (1, .vec (a1).length 3 ((a1).flatMap e47)), (2, .int .i64 a2)] : Env)) hb5) (opsD_run 32 (l' := (opsAt g49p1).toList.drop 41) (eE := E10) (H' := (mkH [])) (hs := [(mkH []), (mkH []), (mkH [])]) (by kernel_rfl) (.nil)))))) (by kernel_rfl) (by kernel_rfl) (by kernel_rfl) ?_
    refine oK [0, 1, 2, 50] (eE := [(0, .str a0), (1, .vec (a1).length 3 ((a1).flatMap e47)), (2, .int .i64 a2), (50, .bool true)]) (by kernel_rfl) ?_
    exact hj4 true
   ·refine ok_bind (fun x0_13 hx0_13 => ?_)
    refine ok_bind (fun x0_15 hx0_15 => ?_)
    refine ok_if (fun hb6 => ?_) (fun hb6 => ?_)
    ·let E7 : Env := [(12, .bool (decide (a2 < 1))), (11, .bool (decide (a2 < 1))), (10, .int .i64 a2), (6, .int .i64 0), (0, .str a0), (1, .vec (a1).length 3 ((a1).flatMap e47)), (2, .int .i64 a2)]
     let E9 : Env := [(18, .bool (decide ((a1.length : Int) ≤ a2))), (17, .bool (decide ((a1.length : Int) ≤ a2))), (16, .bool (decide ((a1.length : Int) ≤ a2))), (15, .int .i64 (a1.length : Int)), (14, .vec (a1).length 3 ((a1).flatMap e47)), (13, .int .i64 a2), (12, .bool false), (11, .bool false), (10, .int .i64 a2), (6, .int .i64 0), (0, .str a0), (1, .vec (a1).length 3 ((a1).flatMap e47)), (2, .int .i64 a2)]
     let E11 : Env := [(22, .int .i64 (fW .i64 (a2 - 1))), (21, .int .i64 a2), (20, .vec (a1).length 3 ((a1).flatMap e47)), (19, .str a0), (18, .bool false), (17, .bool false), (16, .bool false), (15, .int .i64 (a1.length : Int)), (14, .vec (a1).length 3 ((a1).flatMap e47)), (13, .int .i64 a2), (12, .bool false), (11, .bool false), (10, .int .i64 a2), (6, .int .i64 0), (0, .str a0), (1, .vec (a1).length 3 ((a1).flatMap e47)), (2, .int .i64 a2)]
     let E12 : Env := ((28, .bool (!x0_15)) :: (27, .bool (!x0_15)) :: (26, .bool (!x0_15)) :: (25, .bool x0_15) :: (24, .agg [.int .i64 x0_13.f0, .str x0_13.f1, .int .i64 x0_13.f2]) :: (23, .vptr [.int .i64 x0_13.f0, .str x0_13.f1, .int .i64 x0_13.f2]) :: E11)
     let E13 : Env := [(50, .bool true), (49, .tuple []), (48, .tuple []), (47, .tuple []), (46, .tuple []), (45, .tuple []), (44, .tuple []), (43, .tuple []), (42, .tuple []), (41, .tuple []), (40, .tuple []), (39, .tuple []), (38, .tuple []), (37, .bool true), (36, .bool true), (35, .tuple []), (34, .tuple []), (33, .tuple []), (32, .tuple []), (31, .tuple []), (30, .tuple []), (29, .tuple []), (28, .bool true), (27, .bool true), (26, .bool true), (25, .bool x0_15), (24, .agg [.int .i64 x0_13.f0, .str x0_13.f1, .int .i64 x0_13.f2]), (23, .vptr [.int .i64 x0_13.f0, .str x0_13.f1, .int .i64 x0_13.f2]), (22, .int .i64 (fW .i64 (a2 - 1))), (21, .int .i64 a2), (20, .vec (a1).length 3 ((a1).flatMap e47)), (19, .str a0), (18, .bool false), (17, .bool false), (16, .bool false), (15, .int .i64 (a1.length : Int)), (14, .vec (a1).length 3 ((a1).flatMap e47)), (13, .int .i64 a2), (12, .bool false), (11, .bool false), (10, .int .i64 a2), (6, .int .i64 0), (0, .str a0), (1, .vec (a1).length 3 ((a1).flatMap e47)), (2, .int .i64 a2)]
     refine ok_draw (p' := nav [0] g49p1) (eE := E13) (H' := (mkH [])) (hs := [(mkH []), (mkH []), (mkH [])]) [(0, 0, 0), (1, 0, 0), (3, 0, 0), (7, 0, 0), (7, 0, 0), (23, 0, 0), (63, 0, 0), (127, 0, 0), (255, 0, 0), (511, 0, 0), (511, 0, 0), (511, 0, 0), (2559, 0, 0), (7679, 0, 0), (15871, 0, 0), (32767, 0, 0), (65535, 0, 0), (131071, 0, 0), (262143, 0, 0), (524287, 0, 0), (524287, 0, 0), (524287, 0, 0), (3670015, 0, 0), (7864319, 1, 1), (16777215, 0, 0), (33554431, 0, 0), (67108863, 0, 0), (134217727, 0, 0), (268435455, 0, 0), (268435455, 0, 0), (805306367, 0, 0), (2147483647, 0, 0), (4294967295, 2, 2), (8589934591, 0, 0), (268435455, 0, 0), (268435455, 0, 0), (51808043007, 0, 0), (120527519743, 0, 0), (257966473215, 2, 3), (549755813887, 0, 0), (1099511627775, 0, 0)] (by kernel_rfl) (by kernel_rfl) (by kernel_rfl) (opsD_run 3 (l' := (opsAt g49p1).toList.drop 3) (eE := E7) (H' := (mkH [])) (hs := []) (by kernel_rfl) (opsD_env (eE := [(12, .bool false), (11, .bool false), (10, .int .i64 a2), (6, .int .i64 0), (0, .str a0), (1, .vec (a1).length 3 ((a1).flatMap e47)), (2, .int .i64 a2)]) (congrArg (fun z : Bool => ([(12, .bool z), (11, .bool z), (10, .int .i64 a2), (6, .int .i64 0), (0, .str a0), (1, .vec (a1).length 3 ((a1).flatMap e47)), (2, .int .i64 a2)] : Env)) hb4) (opsD_run 6 (l' := (opsAt g49p1).toList.drop 9) (eE := E9) (H' := (mkH [])) (hs := []) (by kernel_rfl) (opsD_env (eE := [(18, .bool false), (17, .bool false), (16, .bool false), (15, .int .i64 (a1.length : Int)), (14, .vec (a1).length 3 ((a1).flatMap e47)), (13, .int .i64 a2), (12, .bool false), (11, .bool false), (10, .int .i64 a2), (6, .int .i64 0), (0, .str a0), (1, .vec (a1).length 3 ((a1).flatMap e47)), (2, .int .i64 a2)]) (congrArg (fun z : Bool => ([(18, .bool z), (17, .bool z), (16, .bool z), (15, .int .i64 (a1.length : Int)), (14, .vec (a1).length 3 ((a1).flatMap e47)), (13, .int .i64 a2), (12, .bool false), (11, .bool false), (10, .int .i64 a2), (6, .int .i64 0), (0, .str a0), (1, .vec (a1).length 3 ((a1).flatMap e47)), (2, .int .i64 a2)] : Env)) hb5) (opsD_run 4 (l' := (opsAt g49p1).toList.drop 13) (eE := E11) (H' := (mkH [])) (hs := []) (by kernel_rfl) (opsD_chk (l' := (opsAt g49p1).toList.drop 14) (eE := ((23, .vptr [.int .i64 x0_13.f0, .str x0_13.f1, .int .i64 x0_13.f2]) :: E11)) (hs := []) (x := x0_13) (fun (x0_13 : S46) => (.vptr [.int .i64 x0_13.f0, .str x0_13.f1, .int .i64 x0_13.f2], (mkH []))) (vidxH (sz := 3) e47_len (by kernel_rfl)) hx0_13 (by kernel_rfl) (opsD_run 1 (l' := (opsAt g49p1).toList.drop 15) (eE := ((24, .agg [.int .i64 x0_13.f0, .str x0_13.f1, .int .i64 x0_13.f2]) :: (23, .vptr [.int .i64 x0_13.f0, .str x0_13.f1, .int .i64 x0_13.f2]) :: E11)) (H' := (mkH [])) (hs := []) (by kernel_rfl) (opsD_call (l' := (opsAt g49p1).toList.drop 16) (eE := ((25, .bool x0_15) :: (24, .agg [.int .i64 x0_13.f0, .str x0_13.f1, .int .i64 x0_13.f2]) :: (23, .vptr [.int .i64 x0_13.f0, .str x0_13.f1, .int .i64 x0_13.f2]) :: E11)) (hs := [(mkH [])]) (fi := 66) (args := [.str a0, .agg [.int .i64 x0_13.f0, .str x0_13.f1, .int .i64 x0_13.f2]]) (v := .bool x0_15) (by kernel_rfl) (by kernel_rfl) (by kernel_rfl) (g66_ok k a0 (⟨x0_13.f0, x0_13.f1, x0_13.f2⟩ : S46) x0_15 hx0_15) (by kernel_rfl) (opsD_run 3 (l' := (opsAt g49p1).toList.drop 19) (eE := E12) (H' := (mkH [])) (hs := []) (by kernel_rfl) (opsD_env (eE := [(28, .bool true), (27, .bool true), (26, .bool true), (25, .bool x0_15), (24, .agg [.int .i64 x0_13.f0, .str x0_13.f1, .int .i64 x0_13.f2]), (23, .vptr [.int .i64 x0_13.f0, .str x0_13.f1, .int .i64 x0_13.f2]), (22, .int .i64 (fW .i64 (a2 - 1))), (21, .int .i64 a2), (20, .vec (a1).length 3 ((a1).flatMap e47)), (19, .str a0), (18, .bool false), (17, .bool false), (16, .bool false), (15, .int .i64 (a1.length : Int)), (14, .vec (a1).length 3 ((a1).flatMap e47)), (13, .int .i64 a2), (12, .bool false), (11, .bool false), (10, .int .i64 a2), (6, .int .i64 0), (0, .str a0), (1, .vec (a1).length 3 ((a1).flatMap e47)), (2, .int .i64 a2)]) (congrArg (fun z : Bool => ([(28, .bool z), (27, .bool z), (26, .bool z), (25, .bool x0_15), (24, .agg [.int .i64 x0_13.f0, .str x0_13.f1, .int .i64 x0_13.f2]), (23, .vptr [.int .i64 x0_13.f0, .str x0_13.f1, .int .i64 x0_13.f2]), (22, .int .i64 (fW .i64 (a2 - 1))), (21, .int .i64 a2), (20, .vec (a1).length 3 ((a1).flatMap e47)), (19, .str a0), (18, .bool false), (17, .bool false), (16, .bool false), (15, .int .i64 (a1.length : Int)), (14, .vec (a1).length 3 ((a1).flatMap e47)), (13, .int .i64 a2), (12, .bool false), (11, .bool false), (10, .int .i64 a2), (6, .int .i64 0), (0, .str a0), (1, .vec (a1).length 3 ((a1).flatMap e47)), (2, .int .i64 a2)] : Env)) hb6) (opsD_run 22 (l' := (opsAt g49p1).toList.drop 41) (eE := E13) (H' := (mkH [])) (hs := [(mkH []), (mkH [])]) (by kernel_rfl) (.nil)))))))))))) (by kernel_rfl) (by kernel_rfl) (by kernel_rfl) ?_
     refine oK [0, 1, 2, 50] (eE := [(0, .str a0), (1, .vec (a1).length 3 ((a1).flatMap e47)), (2, .int .i64 a2), (50, .bool true)]) (by kernel_rfl) ?_
     exact hj4 true
    ·refine ok_bind (fun x0_22 hx0_22 => ?_)
     refine ok_bind (fun x0_24 hx0_24 => ?_)
     refine ok_if (fun hb7 => ?_) (fun hb7 => ?_)
     ·let E7 : Env := [(12, .bool (decide (a2 < 1))), (11, .bool (decide (a2 < 1))), (10, .int .i64 a2), (6, .int .i64 0), (0, .str a0), (1, .vec (a1).length 3 ((a1).flatMap e47)), (2, .int .i64 a2)]
      let E9 : Env := [(18, .bool (decide ((a1.length : Int) ≤ a2))), (17, .bool (decide ((a1.length : Int) ≤ a2))), (16, .bool (decide ((a1.length : Int) ≤ a2))), (15, .int .i64 (a1.length : Int)), (14, .vec (a1).length 3 ((a1).flatMap e47)), (13, .int .i64 a2), (12, .bool false), (11, .bool false), (10, .int .i64 a2), (6, .int .i64 0), (0, .str a0), (1, .vec (a1).length 3 ((a1).flatMap e47)), (2, .int .i64 a2)]
      let E11 : Env := [(22, .int .i64 (fW .i64 (a2 - 1))), (21, .int .i64 a2), (20, .vec (a1).length 3 ((a1).flatMap e47)), (19, .str a0), (18, .bool false), (17, .bool false), (16, .bool false), (15, .int .i64 (a1.length : Int)), (14, .vec (a1).length 3 ((a1).flatMap e47)), (13, .int .i64 a2), (12, .bool false), (11, .bool false), (10, .int .i64 a2), (6, .int .i64 0), (0, .str a0), (1, .vec (a1).length 3 ((a1).flatMap e47)), (2, .int .i64 a2)]
      let E12 : Env := ((28, .bool (!x0_15)) :: (27, .bool (!x0_15)) :: (26, .bool (!x0_15)) :: (25, .bool x0_15) :: (24, .agg [.int .i64 x0_13.f0, .str x0_13.f1, .int .i64 x0_13.f2]) :: (23, .vptr [.int .i64 x0_13.f0, .str x0_13.f1, .int .i64 x0_13.f2]) :: E11)
      let E14 : Env := [(31, .int .i64 a2), (30, .vec (a1).length 3 ((a1).flatMap e47)), (29, .str a0), (28, .bool false), (27, .bool false), (26, .bool false), (25, .bool x0_15), (24, .agg [.int .i64 x0_13.f0, .str x0_13.f1, .int .i64 x0_13.f2]), (23, .vptr [.int .i64 x0_13.f0, .str x0_13.f1, .int .i64 x0_13.f2]), (22, .int .i64 (fW .i64 (a2 - 1))), (21, .int .i64 a2), (20, .vec (a1).length 3 ((a1).flatMap e47)), (19, .str a0), (18, .bool false), (17, .bool false), (16, .bool false), (15, .int .i64 (a1.length : Int)), (14, .vec (a1).length 3 ((a1).flatMap e47)), (13, .int .i64 a2), (12, .bool false), (11, .bool false), (10, .int .i64 a2), (6, .int .i64 0), (0, .str a0), (1, .vec (a1).length 3 ((a1).flatMap e47)), (2, .int .i64 a2)]
      let E15 : Env := ((37, .bool (!x0_24)) :: (36, .bool (!x0_24)) :: (35, .bool (!x0_24)) :: (34, .bool x0_24) :: (33, .agg [.int .i64 x0_22.f0, .str x0_22.f1, .int .i64 x0_22.f2]) :: (32, .vptr [.int .i64 x0_22.f0, .str x0_22.f1, .int .i64 x0_22.f2]) :: E14)
      let E16 : Env := [(50, .bool true), (49, .tuple []), (48, .tuple []), (47, .tuple []), (46, .tuple []), (45, .tuple []), (44, .tuple []), (43, .tuple []), (42, .tuple []), (41, .tuple []), (40, .tuple []), (39, .tuple []), (38, .tuple []), (37, .bool true), (36, .bool true), (35, .bool true), (34, .bool x0_24), (33, .agg [.int .i64 x0_22.f0, .str x0_22.f1, .int .i64 x0_22.f2]), (32, .vptr [.int .i64 x0_22.f0, .str x0_22.f1, .int .i64 x0_22.f2]), (31, .int .i64 a2), (30, .vec (a1).length 3 ((a1).flatMap e47)), (29, .str a0), (28, .bool false), (27, .bool false), (26, .bool false), (25, .bool x0_15), (24, .agg [.int .i64 x0_13.f0, .str x0_13.f1, .int .i64 x0_13.f2]), (23, .vptr [.int .i64 x0_13.f0, .str x0_13.f1, .int .i64 x0_13.f2]), (22, .int .i64 (fW .i64 (a2 - 1))), (21, .int .i64 a2), (20, .vec (a1).length 3 ((a1).flatMap e47)), (19, .str a0), (18, .bool false), (17, .bool false), (16, .bool false), (15, .int .i64 (a1.length : Int)), (14, .vec (a1).length 3 ((a1).flatMap e47)), (13, .int .i64 a2), (12, .bool false), (11, .bool false), (10, .int .i64 a2), (6, .int .i64 0), (0, .str a0), (1, .vec (a1).length 3 ((a1).flatMap e47)), (2, .int .i64 a2)]
      refine ok_draw (p' := nav [0] g49p1) (eE := E16) (H' := (mkH [])) (hs := [(mkH []), (mkH []), (mkH [])]) [(0, 0, 0), (1, 0, 0), (3, 0, 0), (7, 0, 0), (7, 0, 0), (23, 0, 0), (63, 0, 0), (127, 0, 0), (255, 0, 0), (511, 0, 0), (511, 0, 0), (511, 0, 0), (2559, 0, 0), (7679, 0, 0), (15871, 0, 0), (32767, 0, 0), (65535, 0, 0), (131071, 0, 0), (262143, 0, 0), (524287, 0, 0), (524287, 0, 0), (524287, 0, 0), (3670015, 0, 0), (7864319, 1, 1), (16777215, 0, 0), (33554431, 0, 0), (67108863, 0, 0), (134217727, 0, 0), (268435455, 0, 0), (268435455, 0, 0), (805306367, 0, 0), (2147483647, 0, 0), (4294967295, 2, 2), (8589934591, 0, 0), (268435455, 0, 0), (268435455, 0, 0), (51808043007, 0, 0), (120527519743, 0, 0), (257966473215, 2, 3), (549755813887, 0, 0), (1099511627775, 0, 0)] (by kernel_rfl) (by kernel_rfl) (by kernel_rfl) (opsD_run 3 (l' := (opsAt g49p1).toList.drop 3) (eE := E7) (H' := (mkH [])) (hs := []) (by kernel_rfl) (opsD_env (eE := [(12, .bool false), (11, .bool false), (10, .int .i64 a2), (6, .int .i64 0), (0, .str a0), (1, .vec (a1).length 3 ((a1).flatMap e47)), (2, .int .i64 a2)]) (congrArg (fun z : Bool => ([(12, .bool z), (11, .bool z), (10, .int .i64 a2), (6, .int .i64 0), (0, .str a0), (1, .vec (a1).length 3 ((a1).flatMap e47)), (2, .int .i64 a2)] : Env)) hb4) (opsD_run 6 (l' := (opsAt g49p1).toList.drop 9) (eE := E9) (H' := (mkH [])) (hs := []) (by kernel_rfl) (opsD_env (eE := [(18, .bool false), (17, .bool false), (16, .bool false), (15, .int .i64 (a1.length : Int)), (14, .vec (a1).length 3 ((a1).flatMap e47)), (13, .int .i64 a2), (12, .bool false), (11, .bool false), (10, .int .i64 a2), (6, .int .i64 0), (0, .str a0), (1, .vec (a1).length 3 ((a1).flatMap e47)), (2, .int .i64 a2)]) (congrArg (fun z : Bool => ([(18, .bool z), (17, .bool z), (16, .bool z), (15, .int .i64 (a1.length : Int)), (14, .vec (a1).length 3 ((a1).flatMap e47)), (13, .int .i64 a2), (12, .bool false), (11, .bool false), (10, .int .i64 a2), (6, .int .i64 0), (0, .str a0), (1, .vec (a1).length 3 ((a1).flatMap e47)), (2, .int .i64 a2)] : Env)) hb5) (opsD_run 4 (l' := (opsAt g49p1).toList.drop 13) (eE := E11) (H' := (mkH [])) (hs := []) (by kernel_rfl) (opsD_chk (l' := (opsAt g49p1).toList.drop 14) (eE := ((23, .vptr [.int .i64 x0_13.f0, .str x0_13.f1, .int .i64 x0_13.f2]) :: E11)) (hs := []) (x := x0_13) (fun (x0_13 : S46) => (.vptr [.int .i64 x0_13.f0, .str x0_13.f1, .int .i64 x0_13.f2], (mkH []))) (vidxH (sz := 3) e47_len (by kernel_rfl)) hx0_13 (by kernel_rfl) (opsD_run 1 (l' := (opsAt g49p1).toList.drop 15) (eE := ((24, .agg [.int .i64 x0_13.f0, .str x0_13.f1, .int .i64 x0_13.f2]) :: (23, .vptr [.int .i64 x0_13.f0, .str x0_13.f1, .int .i64 x0_13.f2]) :: E11)) (H' := (mkH [])) (hs := []) (by kernel_rfl) (opsD_call (l' := (opsAt g49p1).toList.drop 16) (eE := ((25, .bool x0_15) :: (24, .agg [.int .i64 x0_13.f0, .str x0_13.f1, .int .i64 x0_13.f2]) :: (23, .vptr [.int .i64 x0_13.f0, .str x0_13.f1, .int .i64 x0_13.f2]) :: E11)) (hs := [(mkH [])]) (fi := 66) (args := [.str a0, .agg [.int .i64 x0_13.f0, .str x0_13.f1, .int .i64 x0_13.f2]]) (v := .bool x0_15) (by kernel_rfl) (by kernel_rfl) (by kernel_rfl) (g66_ok k a0 (⟨x0_13.f0, x0_13.f1, x0_13.f2⟩ : S46) x0_15 hx0_15) (by kernel_rfl) (opsD_run 3 (l' := (opsAt g49p1).toList.drop 19) (eE := E12) (H' := (mkH [])) (hs := []) (by kernel_rfl) (opsD_env (eE := [(28, .bool false), (27, .bool false), (26, .bool false), (25, .bool x0_15), (24, .agg [.int .i64 x0_13.f0, .str x0_13.f1, .int .i64 x0_13.f2]), (23, .vptr [.int .i64 x0_13.f0, .str x0_13.f1, .int .i64 x0_13.f2]), (22, .int .i64 (fW .i64 (a2 - 1))), (21, .int .i64 a2), (20, .vec (a1).length 3 ((a1).flatMap e47)), (19, .str a0), (18, .bool false), (17, .bool false), (16, .bool false), (15, .int .i64 (a1.length : Int)), (14, .vec (a1).length 3 ((a1).flatMap e47)), (13, .int .i64 a2), (12, .bool false), (11, .bool false), (10, .int .i64 a2), (6, .int .i64 0), (0, .str a0), (1, .vec (a1).length 3 ((a1).flatMap e47)), (2, .int .i64 a2)]) (congrArg (fun z : Bool => ([(28, .bool z), (27, .bool z), (26, .bool z), (25, .bool x0_15), (24, .agg [.int .i64 x0_13.f0, .str x0_13.f1, .int .i64 x0_13.f2]), (23, .vptr [.int .i64 x0_13.f0, .str x0_13.f1, .int .i64 x0_13.f2]), (22, .int .i64 (fW .i64 (a2 - 1))), (21, .int .i64 a2), (20, .vec (a1).length 3 ((a1).flatMap e47)), (19, .str a0), (18, .bool false), (17, .bool false), (16, .bool false), (15, .int .i64 (a1.length : Int)), (14, .vec (a1).length 3 ((a1).flatMap e47)), (13, .int .i64 a2), (12, .bool false), (11, .bool false), (10, .int .i64 a2), (6, .int .i64 0), (0, .str a0), (1, .vec (a1).length 3 ((a1).flatMap e47)), (2, .int .i64 a2)] : Env)) hb6) (opsD_run 3 (l' := (opsAt g49p1).toList.drop 22) (eE := E14) (H' := (mkH [])) (hs := []) (by kernel_rfl) (opsD_chk (l' := (opsAt g49p1).toList.drop 23) (eE := ((32, .vptr [.int .i64 x0_22.f0, .str x0_22.f1, .int .i64 x0_22.f2]) :: E14)) (hs := []) (x := x0_22) (fun (x0_22 : S46) => (.vptr [.int .i64 x0_22.f0, .str x0_22.f1, .int .i64 x0_22.f2], (mkH []))) (vidxH (sz := 3) e47_len (by kernel_rfl)) hx0_22 (by kernel_rfl) (opsD_run 1 (l' := (opsAt g49p1).toList.drop 24) (eE := ((33, .agg [.int .i64 x0_22.f0, .str x0_22.f1, .int .i64 x0_22.f2]) :: (32, .vptr [.int .i64 x0_22.f0, .str x0_22.f1, .int .i64 x0_22.f2]) :: E14)) (H' := (mkH [])) (hs := []) (by kernel_rfl) (opsD_call (l' := (opsAt g49p1).toList.drop 25) (eE := ((34, .bool x0_24) :: (33, .agg [.int .i64 x0_22.f0, .str x0_22.f1, .int .i64 x0_22.f2]) :: (32, .vptr [.int .i64 x0_22.f0, .str x0_22.f1, .int .i64 x0_22.f2]) :: E14)) (hs := [(mkH [])]) (fi := 66) (args := [.str a0, .agg [.int .i64 x0_22.f0, .str x0_22.f1, .int .i64 x0_22.f2]]) (v := .bool x0_24) (by kernel_rfl) (by kernel_rfl) (by kernel_rfl) (g66_ok k a0 (⟨x0_22.f0, x0_22.f1, x0_22.f2⟩ : S46) x0_24 hx0_24) (by kernel_rfl) (opsD_run 3 (l' := (opsAt g49p1).toList.drop 28) (eE := E15) (H' := (mkH [])) (hs := []) (by kernel_rfl) (opsD_env (eE := [(37, .bool true), (36, .bool true), (35, .bool true), (34, .bool x0_24), (33, .agg [.int .i64 x0_22.f0, .str x0_22.f1, .int .i64 x0_22.f2]), (32, .vptr [.int .i64 x0_22.f0, .str x0_22.f1, .int .i64 x0_22.f2]), (31, .int .i64 a2), (30, .vec (a1).length 3 ((a1).flatMap e47)), (29, .str a0), (28, .bool false), (27, .bool false), (26, .bool false), (25, .bool x0_15), (24, .agg [.int .i64 x0_13.f0, .str x0_13.f1, .int .i64 x0_13.f2]), (23, .vptr [.int .i64 x0_13.f0, .str x0_13.f1, .int .i64 x0_13.f2]), (22, .int .i64 (fW .i64 (a2 - 1))), (21, .int .i64 a2), (20, .vec (a1).length 3 ((a1).flatMap e47)), (19, .str a0), (18, .bool false), (17, .bool false), (16, .bool false), (15, .int .i64 (a1.length : Int)), (14, .vec (a1).length 3 ((a1).flatMap e47)), (13, .int .i64 a2), (12, .bool false), (11, .bool false), (10, .int .i64 a2), (6, .int .i64 0), (0, .str a0), (1, .vec (a1).length 3 ((a1).flatMap e47)), (2, .int .i64 a2)]) (congrArg (fun z : Bool => ([(37, .bool z), (36, .bool z), (35, .bool z), (34, .bool x0_24), (33, .agg [.int .i64 x0_22.f0, .str x0_22.f1, .int .i64 x0_22.f2]), (32, .vptr [.int .i64 x0_22.f0, .str x0_22.f1, .int .i64 x0_22.f2]), (31, .int .i64 a2), (30, .vec (a1).length 3 ((a1).flatMap e47)), (29, .str a0), (28, .bool false), (27, .bool false), (26, .bool false), (25, .bool x0_15), (24, .agg [.int .i64 x0_13.f0, .str x0_13.f1, .int .i64 x0_13.f2]), (23, .vptr [.int .i64 x0_13.f0, .str x0_13.f1, .int .i64 x0_13.f2]), (22, .int .i64 (fW .i64 (a2 - 1))), (21, .int .i64 a2), (20, .vec (a1).length 3 ((a1).flatMap e47)), (19, .str a0), (18, .bool false), (17, .bool false), (16, .bool false), (15, .int .i64 (a1.length : Int)), (14, .vec (a1).length 3 ((a1).flatMap e47)), (13, .int .i64 a2), (12, .bool false), (11, .bool false), (10, .int .i64 a2), (6, .int .i64 0), (0, .str a0), (1, .vec (a1).length 3 ((a1).flatMap e47)), (2, .int .i64 a2)] : Env)) hb7) (opsD_run 13 (l' := (opsAt g49p1).toList.drop 41) (eE := E16) (H' := (mkH [])) (hs := [(mkH [])]) (by kernel_rfl) (.nil)))))))))))))))))) (by kernel_rfl) (by kernel_rfl) (by kernel_rfl) ?_
      refine oK [0, 1, 2, 50] (eE := [(0, .str a0), (1, .vec (a1).length 3 ((a1).flatMap e47)), (2, .int .i64 a2), (50, .bool true)]) (by kernel_rfl) ?_
      exact hj4 true
     ·refine ok_bind (fun x0_31 hx0_31 => ?_)
      refine ok_bind (fun x0_33 hx0_33 => ?_)
      refine ok_bind (fun x0_36 hx0_36 => ?_)
      let E7 : Env := [(12, .bool (decide (a2 < 1))), (11, .bool (decide (a2 < 1))), (10, .int .i64 a2), (6, .int .i64 0), (0, .str a0), (1, .vec (a1).length 3 ((a1).flatMap e47)), (2, .int .i64 a2)]
      let E9 : Env := [(18, .bool (decide ((a1.length : Int) ≤ a2))), (17, .bool (decide ((a1.length : Int) ≤ a2))), (16, .bool (decide ((a1.length : Int) ≤ a2))), (15, .int .i64 (a1.length : Int)), (14, .vec (a1).length 3 ((a1).flatMap e47)), (13, .int .i64 a2), (12, .bool false), (11, .bool false), (10, .int .i64 a2), (6, .int .i64 0), (0, .str a0), (1, .vec (a1).length 3 ((a1).flatMap e47)), (2, .int .i64 a2)]
      let E11 : Env := [(22, .int .i64 (fW .i64 (a2 - 1))), (21, .int .i64 a2), (20, .vec (a1).length 3 ((a1).flatMap e47)), (19, .str a0), (18, .bool false), (17, .bool false), (16, .bool false), (15, .int .i64 (a1.length : Int)), (14, .vec (a1).length 3 ((a1).flatMap e47)), (13, .int .i64 a2), (12, .bool false), (11, .bool false), (10, .int .i64 a2), (6, .int .i64 0), (0, .str a0), (1, .vec (a1).length 3 ((a1).flatMap e47)), (2, .int .i64 a2)]
      let E12 : Env := ((28, .bool (!x0_15)) :: (27, .bool (!x0_15)) :: (26, .bool (!x0_15)) :: (25, .bool x0_15) :: (24, .agg [.int .i64 x0_13.f0, .str x0_13.f1, .int .i64 x0_13.f2]) :: (23, .vptr [.int .i64 x0_13.f0, .str x0_13.f1, .int .i64 x0_13.f2]) :: E11)
      let E14 : Env := [(31, .int .i64 a2), (30, .vec (a1).length 3 ((a1).flatMap e47)), (29, .str a0), (28, .bool false), (27, .bool false), (26, .bool false), (25, .bool x0_15), (24, .agg [.int .i64 x0_13.f0, .str x0_13.f1, .int .i64 x0_13.f2]), (23, .vptr [.int .i64 x0_13.f0, .str x0_13.f1, .int .i64 x0_13.f2]), (22, .int .i64 (fW .i64 (a2 - 1))), (21, .int .i64 a2), (20, .vec (a1).length 3 ((a1).flatMap e47)), (19, .str a0), (18, .bool false), (17, .bool false), (16, .bool false), (15, .int .i64 (a1.length : Int)), (14, .vec (a1).length 3 ((a1).flatMap e47)), (13, .int .i64 a2), (12, .bool false), (11, .bool false), (10, .int .i64 a2), (6, .int .i64 0), (0, .str a0), (1, .vec (a1).length 3 ((a1).flatMap e47)), (2, .int .i64 a2)]
      let E15 : Env := ((37, .bool (!x0_24)) :: (36, .bool (!x0_24)) :: (35, .bool (!x0_24)) :: (34, .bool x0_24) :: (33, .agg [.int .i64 x0_22.f0, .str x0_22.f1, .int .i64 x0_22.f2]) :: (32, .vptr [.int .i64 x0_22.f0, .str x0_22.f1, .int .i64 x0_22.f2]) :: E14)
      let E17 : Env := [(40, .int .i64 (fW .i64 (a2 - 1))), (39, .int .i64 a2), (38, .vec (a1).length 3 ((a1).flatMap e47)), (37, .bool false), (36, .bool false), (35, .bool false), (34, .bool x0_24), (33, .agg [.int .i64 x0_22.f0, .str x0_22.f1, .int .i64 x0_22.f2]), (32, .vptr [.int .i64 x0_22.f0, .str x0_22.f1, .int .i64 x0_22.f2]), (31, .int .i64 a2), (30, .vec (a1).length 3 ((a1).flatMap e47)), (29, .str a0), (28, .bool false), (27, .bool false), (26, .bool false), (25, .bool x0_15), (24, .agg [.int .i64 x0_13.f0, .str x0_13.f1, .int .i64 x0_13.f2]), (23, .vptr [.int .i64 x0_13.f0, .str x0_13.f1, .int .i64 x0_13.f2]), (22, .int .i64 (fW .i64 (a2 - 1))), (21, .int .i64 a2), (20, .vec (a1).length 3 ((a1).flatMap e47)), (19, .str a0), (18, .bool false), (17, .bool false), (16, .bool false), (15, .int .i64 (a1.length : Int)), (14, .vec (a1).length 3 ((a1).flatMap e47)), (13, .int .i64 a2), (12, .bool false), (11, .bool false), (10, .int .i64 a2), (6, .int .i64 0), (0, .str a0), (1, .vec (a1).length 3 ((a1).flatMap e47)), (2, .int .i64 a2)]
      let E18 : Env := ((45, .int .i64 a2) :: (44, .vec (a1).length 3 ((a1).flatMap e47)) :: (43, .int .i64 x0_33) :: (42, .agg [.int .i64 x0_31.f0, .str x0_31.f1, .int .i64 x0_31.f2]) :: (41, .vptr [.int .i64 x0_31.f0, .str x0_31.f1, .int .i64 x0_31.f2]) :: E17)
      let E19 : Env := ((50, .bool (decide (x0_36.f2 < x0_33))) :: (49, .bool (decide (x0_36.f2 < x0_33))) :: (48, .int .i64 x0_36.f2) :: (47, .vptr [.int .i64 x0_36.f2]) :: (46, .vptr [.int .i64 x0_36.f0, .str x0_36.f1, .int .i64 x0_36.f2]) :: E18)
      refine ok_draw (p' := nav [0] g49p1) (eE := E19) (H' := (mkH [])) (hs := [(mkH []), (mkH []), (mkH [])]) [(0, 0, 0), (1, 0, 0), (3, 0, 0), (7, 0, 0), (7, 0, 0), (23, 0, 0), (63, 0, 0), (127, 0, 0), (255, 0, 0), (511, 0, 0), (511, 0, 0), (511, 0, 0), (2559, 0, 0), (7679, 0, 0), (15871, 0, 0), (32767, 0, 0), (65535, 0, 0), (131071, 0, 0), (262143, 0, 0), (524287, 0, 0), (524287, 0, 0), (524287, 0, 0), (3670015, 0, 0), (7864319, 1, 1), (16777215, 0, 0), (33554431, 0, 0), (67108863, 0, 0), (134217727, 0, 0), (268435455, 0, 0), (268435455, 0, 0), (805306367, 0, 0), (2147483647, 0, 0), (4294967295, 2, 2), (8589934591, 0, 0), (268435455, 0, 0), (268435455, 0, 0), (51808043007, 0, 0), (120527519743, 0, 0), (257966473215, 2, 3), (549755813887, 0, 0), (1099511627775, 0, 0)] (by kernel_rfl) (by kernel_rfl) (by kernel_rfl) (opsD_run 3 (l' := (opsAt g49p1).toList.drop 3) (eE := E7) (H' := (mkH [])) (hs := []) (by kernel_rfl) (opsD_env (eE := [(12, .bool false), (11, .bool false), (10, .int .i64 a2), (6, .int .i64 0), (0, .str a0), (1, .vec (a1).length 3 ((a1).flatMap e47)), (2, .int .i64 a2)]) (congrArg (fun z : Bool => ([(12, .bool z), (11, .bool z), (10, .int .i64 a2), (6, .int .i64 0), (0, .str a0), (1, .vec (a1).length 3 ((a1).flatMap e47)), (2, .int .i64 a2)] : Env)) hb4) (opsD_run 6 (l' := (opsAt g49p1).toList.drop 9) (eE := E9) (H' := (mkH [])) (hs := []) (by kernel_rfl) (opsD_env (eE := [(18, .bool false), (17, .bool false), (16, .bool false), (15, .int .i64 (a1.length : Int)), (14, .vec (a1).length 3 ((a1).flatMap e47)), (13, .int .i64 a2), (12, .bool false), (11, .bool false), (10, .int .i64 a2), (6, .int .i64 0), (0, .str a0), (1, .vec (a1).length 3 ((a1).flatMap e47)), (2, .int .i64 a2)]) (congrArg (fun z : Bool => ([(18, .bool z), (17, .bool z), (16, .bool z), (15, .int .i64 (a1.length : Int)), (14, .vec (a1).length 3 ((a1).flatMap e47)), (13, .int .i64 a2), (12, .bool false), (11, .bool false), (10, .int .i64 a2), (6, .int .i64 0), (0, .str a0), (1, .vec (a1).length 3 ((a1).flatMap e47)), (2, .int .i64 a2)] : Env)) hb5) (opsD_run 4 (l' := (opsAt g49p1).toList.drop 13) (eE := E11) (H' := (mkH [])) (hs := []) (by kernel_rfl) (opsD_chk (l' := (opsAt g49p1).toList.drop 14) (eE := ((23, .vptr [.int .i64 x0_13.f0, .str x0_13.f1, .int .i64 x0_13.f2]) :: E11)) (hs := []) (x := x0_13) (fun (x0_13 : S46) => (.vptr [.int .i64 x0_13.f0, .str x0_13.f1, .int .i64 x0_13.f2], (mkH []))) (vidxH (sz := 3) e47_len (by kernel_rfl)) hx0_13 (by kernel_rfl) (opsD_run 1 (l' := (opsAt g49p1).toList.drop 15) (eE := ((24, .agg [.int .i64 x0_13.f0, .str x0_13.f1, .int .i64 x0_13.f2]) :: (23, .vptr [.int .i64 x0_13.f0, .str x0_13.f1, .int .i64 x0_13.f2]) :: E11)) (H' := (mkH [])) (hs := []) (by kernel_rfl) (opsD_call (l' := (opsAt g49p1).toList.drop 16) (eE := ((25, .bool x0_15) :: (24, .agg [.int .i64 x0_13.f0, .str x0_13.f1, .int .i64 x0_13.f2]) :: (23, .vptr [.int .i64 x0_13.f0, .str x0_13.f1, .int .i64 x0_13.f2]) :: E11)) (hs := [(mkH [])]) (fi := 66) (args := [.str a0, .agg [.int .i64 x0_13.f0, .str x0_13.f1, .int .i64 x0_13.f2]]) (v := .bool x0_15) (by kernel_rfl) (by kernel_rfl) (by kernel_rfl) (g66_ok k a0 (⟨x0_13.f0, x0_13.f1, x0_13.f2⟩ : S46) x0_15 hx0_15) (by kernel_rfl) (opsD_run 3 (l' := (opsAt g49p1).toList.drop 19) (eE := E12) (H' := (mkH [])) (hs := []) (by kernel_rfl) (opsD_env (eE := [(28, .bool false), (27, .bool false), (26, .bool false), (25, .bool x0_15), (24, .agg [.int .i64 x0_13.f0, .str x0_13.f1, .int .i64 x0_13.f2]), (23, .vptr [.int .i64 x0_13.f0, .str x0_13.f1, .int .i64 x0_13.f2]), (22, .int .i64 (fW .i64 (a2 - 1))), (21, .int .i64 a2), (20, .vec (a1).length 3 ((a1).flatMap e47)), (19, .str a0), (18, .bool false), (17, .bool false), (16, .bool false), (15, .int .i64 (a1.length : Int)), (14, .vec (a1).length 3 ((a1).flatMap e47)), (13, .int .i64 a2), (12, .bool false), (11, .bool false), (10, .int .i64 a2), (6, .int .i64 0), (0, .str a0), (1, .vec (a1).length 3 ((a1).flatMap e47)), (2, .int .i64 a2)]) (congrArg (fun z : Bool => ([(28, .bool z), (27, .bool z), (26, .bool z), (25, .bool x0_15), (24, .agg [.int .i64 x0_13.f0, .str x0_13.f1, .int .i64 x0_13.f2]), (23, .vptr [.int .i64 x0_13.f0, .str x0_13.f1, .int .i64 x0_13.f2]), (22, .int .i64 (fW .i64 (a2 - 1))), (21, .int .i64 a2), (20, .vec (a1).length 3 ((a1).flatMap e47)), (19, .str a0), (18, .bool false), (17, .bool false), (16, .bool false), (15, .int .i64 (a1.length : Int)), (14, .vec (a1).length 3 ((a1).flatMap e47)), (13, .int .i64 a2), (12, .bool false), (11, .bool false), (10, .int .i64 a2), (6, .int .i64 0), (0, .str a0), (1, .vec (a1).length 3 ((a1).flatMap e47)), (2, .int .i64 a2)] : Env)) hb6) (opsD_run 3 (l' := (opsAt g49p1).toList.drop 22) (eE := E14) (H' := (mkH [])) (hs := []) (by kernel_rfl) (opsD_chk (l' := (opsAt g49p1).toList.drop 23) (eE := ((32, .vptr [.int .i64 x0_22.f0, .str x0_22.f1, .int .i64 x0_22.f2]) :: E14)) (hs := []) (x := x0_22) (fun (x0_22 : S46) => (.vptr [.int .i64 x0_22.f0, .str x0_22.f1, .int .i64 x0_22.f2], (mkH []))) (vidxH (sz := 3) e47_len (by kernel_rfl)) hx0_22 (by kernel_rfl) (opsD_run 1 (l' := (opsAt g49p1).toList.drop 24) (eE := ((33, .agg [.int .i64 x0_22.f0, .str x0_22.f1, .int .i64 x0_22.f2]) :: (32, .vptr [.int .i64 x0_22.f0, .str x0_22.f1, .int .i64 x0_22.f2]) :: E14)) (H' := (mkH [])) (hs := []) (by kernel_rfl) (opsD_call (l' := (opsAt g49p1).toList.drop 25) (eE := ((34, .bool x0_24) :: (33, .agg [.int .i64 x0_22.f0, .str x0_22.f1, .int .i64 x0_22.f2]) :: (32, .vptr [.int .i64 x0_22.f0, .str x0_22.f1, .int .i64 x0_22.f2]) :: E14)) (hs := [(mkH [])]) (fi := 66) (args := [.str a0, .agg [.int .i64 x0_22.f0, .str x0_22.f1, .int .i64 x0_22.f2]]) (v := .bool x0_24) (by kernel_rfl) (by kernel_rfl) (by kernel_rfl) (g66_ok k a0 (⟨x0_22.f0, x0_22.f1, x0_22.f2⟩ : S46) x0_24 hx0_24) (by kernel_rfl) (opsD_run 3 (l' := (opsAt g49p1).toList.drop 28) (eE := E15) (H' := (mkH [])) (hs := []) (by kernel_rfl) (opsD_env (eE := [(37, .bool false), (36, .bool false), (35, .bool false), (34, .bool x0_24), (33, .agg [.int .i64 x0_22.f0, .str x0_22.f1, .int .i64 x0_22.f2]), (32, .vptr [.int .i64 x0_22.f0, .str x0_22.f1, .int .i64 x0_22.f2]), (31, .int .i64 a2), (30, .vec (a1).length 3 ((a1).flatMap e47)), (29, .str a0), (28, .bool false), (27, .bool false), (26, .bool false), (25, .bool x0_15), (24, .agg [.int .i64 x0_13.f0, .str x0_13.f1, .int .i64 x0_13.f2]), (23, .vptr [.int .i64 x0_13.f0, .str x0_13.f1, .int .i64 x0_13.f2]), (22, .int .i64 (fW .i64 (a2 - 1))), (21, .int .i64 a2), (20, .vec (a1).length 3 ((a1).flatMap e47)), (19, .str a0), (18, .bool false), (17, .bool false), (16, .bool false), (15, .int .i64 (a1.length : Int)), (14, .vec (a1).length 3 ((a1).flatMap e47)), (13, .int .i64 a2), (12, .bool false), (11, .bool false), (10, .int .i64 a2), (6, .int .i64 0), (0, .str a0), (1, .vec (a1).length 3 ((a1).flatMap e47)), (2, .int .i64 a2)]) (congrArg (fun z : Bool => ([(37, .bool z), (36, .bool z), (35, .bool z), (34, .bool x0_24), (33, .agg [.int .i64 x0_22.f0, .str x0_22.f1, .int .i64 x0_22.f2]), (32, .vptr [.int .i64 x0_22.f0, .str x0_22.f1, .int .i64 x0_22.f2]), (31, .int .i64 a2), (30, .vec (a1).length 3 ((a1).flatMap e47)), (29, .str a0), (28, .bool false), (27, .bool false), (26, .bool false), (25, .bool x0_15), (24, .agg [.int .i64 x0_13.f0, .str x0_13.f1, .int .i64 x0_13.f2]), (23, .vptr [.int .i64 x0_13.f0, .str x0_13.f1, .int .i64 x0_13.f2]), (22, .int .i64 (fW .i64 (a2 - 1))), (21, .int .i64 a2), (20, .vec (a1).length 3 ((a1).flatMap e47)), (19, .str a0), (18, .bool false), (17, .bool false), (16, .bool false), (15, .int .i64 (a1.length : Int)), (14, .vec (a1).length 3 ((a1).flatMap e47)), (13, .int .i64 a2), (12, .bool false), (11, .bool false), (10, .int .i64 a2), (6, .int .i64 0), (0, .str a0), (1, .vec (a1).length 3 ((a1).flatMap e47)), (2, .int .i64 a2)] : Env)) hb7) (opsD_run 3 (l' := (opsAt g49p1).toList.drop 31) (eE := E17) (H' := (mkH [])) (hs := []) (by kernel_rfl) (opsD_chk (l' := (opsAt g49p1).toList.drop 32) (eE := ((41, .vptr [.int .i64 x0_31.f0, .str x0_31.f1, .int .i64 x0_31.f2]) :: E17)) (hs := []) (x := x0_31) (fun (x0_31 : S46) => (.vptr [.int .i64 x0_31.f0, .str x0_31.f1, .int .i64 x0_31.f2], (mkH []))) (vidxH (sz := 3) e47_len (by kernel_rfl)) hx0_31 (by kernel_rfl) (opsD_run 1 (l' := (opsAt g49p1).toList.drop 33) (eE := ((42, .agg [.int .i64 x0_31.f0, .str x0_31.f1, .int .i64 x0_31.f2]) :: (41, .vptr [.int .i64 x0_31.f0, .str x0_31.f1, .int .i64 x0_31.f2]) :: E17)) (H' := (mkH [])) (hs := []) (by kernel_rfl) (opsD_call (l' := (opsAt g49p1).toList.drop 34) (eE := ((43, .int .i64 x0_33) :: (42, .agg [.int .i64 x0_31.f0, .str x0_31.f1, .int .i64 x0_31.f2]) :: (41, .vptr [.int .i64 x0_31.f0, .str x0_31.f1, .int .i64 x0_31.f2]) :: E17)) (hs := [(mkH [])]) (fi := 38) (args := [.agg [.int .i64 x0_31.f0, .str x0_31.f1, .int .i64 x0_31.f2]]) (v := .int .i64 x0_33) (by kernel_rfl) (by kernel_rfl) (by kernel_rfl) (g38_ok k (⟨x0_31.f0, x0_31.f1, x0_31.f2⟩ : S46) x0_33 hx0_33) (by kernel_rfl) (opsD_run 2 (l' := (opsAt g49p1).toList.drop 36) (eE := E18) (H' := (mkH [])) (hs := []) (by kernel_rfl) (opsD_chk (l' := (opsAt g49p1).toList.drop 37) (eE := ((46, .vptr [.int .i64 x0_36.f0, .str x0_36.f1, .int .i64 x0_36.f2]) :: E18)) (hs := []) (x := x0_36) (fun (x0_36 : S46) => (.vptr [.int .i64 x0_36.f0, .str x0_36.f1, .int .i64 x0_36.f2], (mkH []))) (vidxH (sz := 3) e47_len (by kernel_rfl)) hx0_36 (by kernel_rfl) (opsD_run 4 (l' := (opsAt g49p1).toList.drop 41) (eE := E19) (H' := (mkH [])) (hs := []) (by kernel_rfl) (.nil)))))))))))))))))))))))) (by kernel_rfl) (by kernel_rfl) (by kernel_rfl) ?_
      refine oK [0, 1, 2, 50] (eE := [(0, .str a0), (1, .vec (a1).length 3 ((a1).flatMap e47)), (2, .int .i64 a2), (50, .bool (decide (x0_36.f2 < x0_33)))]) (by kernel_rfl) ?_
      exact hj4 (decide (x0_36.f2 < x0_33))
end
end Go.Proofs.Ytbmijiibfaacmaa.Am
set_option maxRecDepth 100000
set_option linter.unusedVariables false
namespace Go.Proofs.Ytbmijiibfaacmaa.Am
noncomputable section
open Go
def X37 : Fx Bool := ⟨Try.prog, cx, Try.f37, fun r => .bool r, 0, fun _ => H0, cxTi, cxOrd⟩
def g37p0 : Pt := nav [0] (bodyAt Try.f37)
def g37p1 : Pt := nav [0, 0, 0] g37p0
def g37 (k : Nat) (a0 : (List Nat)) (a1 : (List S46)) (a2 : Int) : Option Bool :=
 (g49 k a0 a1 a2).bind fun x0_3 => some (decide (1 < x0_3))
theorem g37_ok (k : Nat) (a0 : (List Nat)) (a1 : (List S46)) (a2 : Int) (r : Bool) (h : g37 k a0 a1 a2 = some r) : PureOk Try.prog 37 [.str a0, .vec (a1).length 3 ((a1).flatMap e47), .int .i64 a2] (.bool r) := by
 refine pure_of X37 (fun _ => rfl) Try.func37 (by decide +kernel) (by kernel_rfl) (t := g37 k a0 a1 a2) ?_ h
 unfold g37
 refine oE (eE := [(0, .str a0), (1, .vec (a1).length 3 ((a1).flatMap e47)), (2, .int .i64 a2)]) (by kernel_rfl) ?_
 let E1 : Env := [(9, .int .i64 a2), (8, .vec (a1).length 3 ((a1).flatMap e47)), (7, .str a0), (6, .bool false), (0, .str a0), (1, .vec (a1).length 3 ((a1).flatMap e47)), (2, .int .i64 a2)]
 refine oR 9 (p' := (atN 3 (ctl1 g37p1))) (eE := E1) (H' := (mkH [])) (by kernel_rfl) ?_
 refine oC (fun (x0_3 : Int) => .int .i64 x0_3) (atN 4 (ctl1 g37p1)) (fun x0_3 => ((10, .int .i64 x0_3) :: E1)) (fi := 49) (args := [.str a0, .vec (a1).length 3 ((a1).flatMap e47), .int .i64 a2]) (by kernel_rfl) (by kernel_rfl) (fun _ => by kernel_rfl) (fun r h => g49_ok k a0 a1 a2 r h) (fun _ => by kernel_rfl) (fun x0_3 hx0_3 => ?_)
 refine oR 4 (p' := .fin) (eE := ((6, .bool (decide (1 < x0_3))) :: (11, .bool (decide (1 < x0_3))) :: (10, .int .i64 x0_3) :: E1)) (H' := (mkH [])) (by kernel_rfl) ?_
 exact oT (r := (decide (1 < x0_3))) (xs := [.bool (decide (1 < x0_3))]) (v := .bool (decide (1 < x0_3))) (by kernel_rfl) (by kernel_rfl) (by kernel_rfl) (.pures (by kernel_rfl)) (by kernel_rfl)
end
end Go.Proofs.Ytbmijiibfaacmaa.Am
set_option maxRecDepth 100000
set_option linter.unusedVariables false
set_option linter.unusedSimpArgs false
namespace Go.Proofs.Ytbmijiibfaacmaa.Am
open Go
def nlF (s : List Nat) (e : Nat) : Nat → Nat → Nat
 | 0, _ => 0
 | d + 1, i => if e ≤ i then 0 else (match s.drop i with | c :: _ => if c = 10 then 1 else 0 | [] => 0) + nlF s e d (i + 1)
def gapN (s : List Nat) (l : List (Nat × Nat × Nat)) (k : Nat) : Nat := match l.drop (k - 1) with | x :: y :: _ => nlF s y.2.1 (y.2.1 - (x.2.1 + x.2.2)) (x.2.1 + x.2.2) | _ => 0
def gapI (s : List Nat) (l : List (Nat × Nat × Nat)) (k : Int) : Nat := if 1 ≤ k ∧ k < l.length then gapN s l k.toNat else 0
theorem toks_pair {s : List Nat} : ∀ {l : List (Nat × Nat × Nat)} {a i : Nat} {x y : Nat × Nat × Nat} {r : List (Nat × Nat × Nat)}, Toks s a l → l.drop i = x :: y :: r → x.2.1 + x.2.2 ≤ y.2.1
 | [], a, i, x, y, r, h, hd => by simp at hd
 | z :: l, a, 0, x, y, r, h, hd => by
  rw [List.drop_zero] at hd
  obtain ⟨rfl, rfl⟩ := List.cons.inj hd
  simp only [Toks] at h
  omega
 | z :: l, a, i + 1, x, y, r, h, hd => by
  rw [List.drop_succ_cons] at hd
  simp only [Toks] at h
  exact toks_pair h.2.2.2.2 hd
theorem map_drop' {α β : Type} {f : α → β} {l : List α} {i : Nat} {x : α} {r : List α} (h : l.drop i = x :: r) : nthL (l.map f) (i : Int) = some (f x) := by
 refine nthL_at (r := r.map f) ?_
 rw [← List.map_drop, h]; rfl
theorem pair_at {l : List (Nat × Nat × Nat)} {k : Nat} (h1 : 1 ≤ k) (h2 : k < l.length) : ∃ x y r, l.drop (k - 1) = x :: y :: r ∧ l.drop k = y :: r ∧ x ∈ l ∧ y ∈ l := by
 obtain ⟨x, r, hx, hr, hxm, -⟩ := dconsL (s := l) (i := k - 1) (by omega)
 obtain ⟨y, r2, hy, -, hym, -⟩ := dconsL (s := l) (i := k) h2
 rw [show k - 1 + 1 = k by omega, hy] at hr
 exact ⟨x, y, r2, by rw [hx, ← hr], hy, hxm, hym⟩
theorem tok_end {s : List Nat} {x : Nat × Nat × Nat} (h : x.2.1 + x.2.2 ≤ s.length) : (mkTok s x).f2 + ((mkTok s x).f1.length : Int) = ((x.2.1 + x.2.2 : Nat) : Int) := by
 have : ((s.drop x.2.1).take x.2.2).length = x.2.2 := by rw [List.length_take, List.length_drop]; omega
 show (x.2.1 : Int) + (((s.drop x.2.1).take x.2.2).length : Int) = _
 rw [this]; push_cast; rfl
theorem ends_l (k : Nat) {s : List Nat} (hl : s.length ≤ 2000) {L : List S46} {kk : Int} {y : Nat × Nat × Nat} (hk : nthL L kk = some (mkTok s y)) (hy : y.2.1 ≤ s.length) : ∀ (d f i c : Nat), i + d = y.2.1 → d < f → c ≤ i →
 g49_l5 k s L kk f (i : Int) (c : Int) = some ((c + nlF s y.2.1 d i : Nat) : Int)
 | 0, f, i, c, h, hf, hc => by
  obtain ⟨f, rfl⟩ : ∃ g, f = g + 1 := ⟨f - 1, by omega⟩
  rw [g49_l5_s]
  refine bS (by (try simp (disch := omega) only [fwI]); exact hk) ?_
  refine iF (dF (show ¬ (i : Int) < (y.2.1 : Int) by omega)) ?_
  rfl
 | d + 1, f, i, c, h, hf, hc => by
  obtain ⟨f, rfl⟩ : ∃ g, f = g + 1 := ⟨f - 1, by omega⟩
  rw [g49_l5_s]
  refine bS (by (try simp (disch := omega) only [fwI]); exact hk) ?_
  obtain ⟨b, r, hb, -, -, -⟩ := dcons (s := s) (i := i) (by omega)
  have nb := nthX (x := (i : Int)) rfl hb
  refine iT (dT (show (i : Int) < (y.2.1 : Int) by omega)) ?_
  refine bS (by (try simp (disch := omega) only [fwI]); exact nb) ?_
  have gc : g49f67_0 k (b : Int) (c : Int) = some ((c + (if b = 10 then 1 else 0) : Nat) : Int) := by
   unfold g49f67_0
   by_cases h10 : b = 10
   ·rw [if_pos h10]
    refine iT (dT (by omega)) ?_
    rw [fw_s (by omega)]
   ·rw [if_neg h10]
    exact iF (dF (by omega)) rfl
  refine bS (by (try simp (disch := omega) only [fwI]); exact gc) ?_
  simp only [nlF]
  rw [if_neg (show ¬ y.2.1 ≤ i by omega), hb, fw_s (n := i) (by omega)]
  simp only []
  clear gc
  have hle : (if b = 10 then 1 else 0) ≤ 1 := by split <;> omega
  generalize (if b = 10 then 1 else 0) = z at *
  have ih := ends_l k hl hk hy d f (i + 1) (c + z) (by omega) (by omega) (by omega)
  exact ih.trans (sn (by omega))
theorem in_at {k : Nat} {s : List Nat} (hl : s.length ≤ 2000) {x : Nat × Nat × Nat} (h : x.2.1 + x.2.2 ≤ s.length) : g66 k s (⟨(mkTok s x).f0, (mkTok s x).f1, (mkTok s x).f2⟩ : S46) = some true := by
 have tl : ((s.drop x.2.1).take x.2.2).length = x.2.2 := by rw [List.length_take, List.length_drop]; omega
 unfold g66
 refine iT (dT (show (0 : Int) ≤ (x.2.1 : Int) by omega)) ?_
 refine iT (dT (show (x.2.1 : Int) ≤ (s.length : Int) by omega)) ?_
 show some (decide ((((s.drop x.2.1).take x.2.2).length : Int) ≤ fW .i64 ((s.length : Int) - (x.2.1 : Int)))) = _
 rw [tl, fw_d (by omega) (by omega), dT (by omega)]
theorem gend_at {k : Nat} {s : List Nat} (hl : s.length ≤ 2000) {x : Nat × Nat × Nat} (h : x.2.1 + x.2.2 ≤ s.length) : g38 k (⟨(mkTok s x).f0, (mkTok s x).f1, (mkTok s x).f2⟩ : S46) = some ((x.2.1 + x.2.2 : Nat) : Int) := by
 unfold g38
 show some (fW .i64 ((mkTok s x).f2 + ((mkTok s x).f1.length : Int))) = _
 rw [tok_end h, fwI (by omega) (by omega)]
theorem ends_at {k : Nat} {s : List Nat} (hk : s.length + 10 ≤ k) (hl : s.length ≤ 2000) {l : List (Nat × Nat × Nat)} (ht : Toks s 0 l) (kk : Int) : g49 k s (l.map (mkTok s)) kk = some ((gapI s l kk : Nat) : Int) := by
 unfold g49 gapI
 have ll : ((l.map (mkTok s)).length : Int) = (l.length : Int) := by simp
 by_cases h : 1 ≤ kk ∧ kk < l.length
 ·rw [if_pos h]
  obtain ⟨n, rfl⟩ : ∃ n : Nat, kk = (n : Int) := ⟨kk.toNat, by omega⟩
  obtain ⟨x, y, r, h1, h2, h3, h4⟩ := pair_at (l := l) (k := n) (by omega) (by omega)
  have bx := toks_bounds ht (Nat.zero_le _) x h3
  have bY := toks_bounds ht (Nat.zero_le _) y h4
  have cl : l.length ≤ s.length := toks_len s (s.length + 1) 0 l ((toks_iff s (s.length + 1) 0 l (by omega)).2 ht) (Nat.zero_le _)
  have pr := toks_pair ht h1
  have e1 := fun _ : Unit => (show fW .i64 ((n : Int) - 1) = ((n - 1 : Nat) : Int) from by rw [fwI (by omega) (by omega)]; omega)
  refine (jS (v := false) (fun j => ?_)).trans ?_
  ·refine iF (dF (by omega)) ?_
   refine iF (dF (by omega)) ?_
   rw [e1 ()]
   refine bS (by (try simp (disch := omega) only [fwI]); exact map_drop' h1) ?_
   refine bS (by (try simp (disch := omega) only [fwI]); exact in_at hl bx.2.1) ?_
   refine iF rfl ?_
   refine bS (by (try simp (disch := omega) only [fwI]); exact map_drop' h2) ?_
   refine bS (by (try simp (disch := omega) only [fwI]); exact in_at hl bY.2.1) ?_
   refine iF rfl ?_
   refine bS (by (try simp (disch := omega) only [fwI]); exact map_drop' h1) ?_
   refine bS (by (try simp (disch := omega) only [fwI]); exact gend_at hl bx.2.1) ?_
   refine bS (by (try simp (disch := omega) only [fwI]); exact map_drop' h2) ?_
   rw [show (mkTok s y).f2 = (y.2.1 : Int) from rfl, dF (show ¬ (y.2.1 : Int) < ((x.2.1 + x.2.2 : Nat) : Int) by omega)]
  ·refine iF rfl ?_
   rw [e1 ()]
   refine bS (by (try simp (disch := omega) only [fwI]); exact map_drop' h1) ?_
   refine bS (by (try simp (disch := omega) only [fwI]); exact gend_at hl bx.2.1) ?_
   refine (ends_l k hl (map_drop' h2) (by omega) (y.2.1 - (x.2.1 + x.2.2)) k (x.2.1 + x.2.2) 0 (by omega) (by omega) (by omega)).trans ?_
   rw [Int.toNat_natCast]
   unfold gapN
   rw [h1, Nat.zero_add]
 ·rw [if_neg h]
  refine (jS (v := true) (fun j => ?_)).trans rfl
  by_cases h1 : kk < 1
  ·exact iT (dT h1) rfl
  ·refine iF (dF h1) ?_
   exact iT (dT (by omega)) rfl
theorem gblank_at {k : Nat} {s : List Nat} (hk : s.length + 10 ≤ k) (hl : s.length ≤ 2000) {l : List (Nat × Nat × Nat)} (ht : Toks s 0 l) (kk : Int) : g37 k s (l.map (mkTok s)) kk = some (decide (2 ≤ ((gapI s l kk : Nat) : Int))) := by
 unfold g37
 refine bS (by (try simp (disch := omega) only [fwI]); exact ends_at hk hl ht kk) ?_
 have : decide ((1 : Int) < ((gapI s l kk : Nat) : Int)) = decide (2 ≤ ((gapI s l kk : Nat) : Int)) := by rw [Bool.eq_iff_iff]; simp; omega
 rw [this]
end Go.Proofs.Ytbmijiibfaacmaa.Am
set_option maxRecDepth 100000
set_option linter.unusedVariables false
namespace Go.Proofs.Ytbmijiibfaacmaa.Am
noncomputable section
open Go
def X29 : Fx (List S36) := ⟨Try.prog, cx, Try.f29, fun r => .vec (r).length 4 ((r).flatMap e37), 0, fun _ => H0, cxTi, cxOrd⟩
def X29f47_1 (a_0 : Int) (a_1 : Int) (a_2 : Bool) (b_3 : (List Nat)) (b_4 : (List S46)) (b3 : (List S36)) : Fx (List S36) := ⟨Try.prog, cx, Try.f47, fun r => .tuple [], 4, fun r => (mkH [⟨[.str b_3], 0, false⟩, ⟨[.vec (b_4).length 3 ((b_4).flatMap e47)], 0, false⟩, ⟨[.own 3 (r).length 4], 1, false⟩, ⟨(r).flatMap e37, 0, false⟩]), cxTi, cxOrd⟩
def g29f47_1p0 : Pt := nav [] (bodyAt Try.f47)
def g29f47_1 (k : Nat) (a_0 : Int) (a_1 : Int) (a_2 : Bool) (b_3 : (List Nat)) (b_4 : (List S46)) (b3 : (List S36)) : Option (List S36) :=
 (g37 k b_3 b_4 a_0).bind fun x0_7 => (appS 24 b3 ([(⟨a_0, a_1, a_2, x0_7⟩ : S36)] : List S36)).bind fun x0_10 => some x0_10
theorem g29f47_1_ok (k : Nat) (a_0 : Int) (a_1 : Int) (a_2 : Bool) (b_3 : (List Nat)) (b_4 : (List S46)) (b3 : (List S36)) (r : (List S36)) (h : g29f47_1 k a_0 a_1 a_2 b_3 b_4 b3 = some r) : CallV Try.prog 47 [.int .i64 a_0, .int .i64 a_1, .bool a_2, .ptr 2 1 0, .ptr 0 1 0, .ptr 1 1 0] (mkH [⟨[.str b_3], 0, false⟩, ⟨[.vec (b_4).length 3 ((b_4).flatMap e47)], 0, false⟩, ⟨[.own 3 (b3).length 4], 1, false⟩, ⟨(b3).flatMap e37, 0, false⟩]) (.tuple []) (mkH [⟨[.str b_3], 0, false⟩, ⟨[.vec (b_4).length 3 ((b_4).flatMap e47)], 0, false⟩, ⟨[.own 3 (r).length 4], 1, false⟩, ⟨(r).flatMap e37, 0, false⟩]) := by
 refine callM_of (X29f47_1 a_0 a_1 a_2 b_3 b_4 b3) Try.func47 (by kernel_rfl) (by kernel_rfl) rfl (t := g29f47_1 k a_0 a_1 a_2 b_3 b_4 b3) ?_ h
 unfold g29f47_1
 refine oE (eE := [(0, .int .i64 a_0), (1, .int .i64 a_1), (2, .bool a_2), (3, .ptr 2 1 0), (4, .ptr 0 1 0), (5, .ptr 1 1 0)]) (by kernel_rfl) ?_
 refine ok_bind (fun x0_7 hx0_7 => ?_)
 refine ok_bind (fun x0_10 hx0_10 => ?_)
 let E1 : Env := [(15, .int .i64 a_0), (14, .vec (b_4).length 3 ((b_4).flatMap e47)), (13, .str b_3), (12, .bool a_2), (11, .int .i64 a_1), (10, .int .i64 a_0), (9, .own 3 (b3).length 4), (0, .int .i64 a_0), (1, .int .i64 a_1), (2, .bool a_2), (3, .ptr 2 1 0), (4, .ptr 0 1 0), (5, .ptr 1 1 0)]
 refine ok_draw (p' := nav [0] g29f47_1p0) (eE := ((19, .own 3 (x0_10).length 4) :: (18, .slice 4 4 0 1 4) :: (17, .agg [.int .i64 a_0, .int .i64 a_1, .bool a_2, .bool x0_7]) :: (16, .bool x0_7) :: E1)) (H' := (mkH [⟨[.str b_3], 0, false⟩, ⟨[.vec (b_4).length 3 ((b_4).flatMap e47)], 0, false⟩, ⟨[.own 3 (x0_10).length 4], 1, false⟩, ⟨(x0_10).flatMap e37, 0, false⟩, ⟨[.int .i64 a_0, .int .i64 a_1, .bool a_2, .bool x0_7], 0, false⟩])) (hs := [(mkH [⟨[.str b_3], 0, false⟩, ⟨[.vec (b_4).length 3 ((b_4).flatMap e47)], 0, false⟩, ⟨[.own 3 (b3).length 4], 1, false⟩, ⟨(b3).flatMap e37, 0, false⟩]), (mkH [⟨[.str b_3], 0, false⟩, ⟨[.vec (b_4).length 3 ((b_4).flatMap e47)], 0, false⟩, ⟨[.own 3 (b3).length 4], 1, false⟩, ⟨(b3).flatMap e37, 0, false⟩, ⟨[.int .i64 a_0, .int .i64 a_1, .bool a_2, .bool x0_7], 0, false⟩]), (mkH [⟨[.str b_3], 0, false⟩, ⟨[.vec (b_4).length 3 ((b_4).flatMap e47)], 0, false⟩, ⟨[.own 3 (b3).length 4], 1, false⟩, ⟨(x0_10).flatMap e37, 0, false⟩, ⟨[.int .i64 a_0, .int .i64 a_1, .bool a_2, .bool x0_7], 0, false⟩]), (mkH [⟨[.str b_3], 0, false⟩, ⟨[.vec (b_4).length 3 ((b_4).flatMap e47)], 0, false⟩, ⟨[.own 3 (x0_10).length 4], 1, false⟩, ⟨(x0_10).flatMap e37, 0, false⟩, ⟨[.int .i64 a_0, .int .i64 a_1, .bool a_2, .bool x0_7], 0, false⟩])]) [(0, 0, 2), (0, 0, 0), (0, 0, 0), (0, 0, 0), (0, 0, 0), (0, 0, 0), (0, 0, 0), (112, 0, 0), (254, 0, 0), (510, 0, 0), (1023, 0, 0), (2047, 0, 0)] (by kernel_rfl) (by kernel_rfl) (by kernel_rfl) (opsD_run 7 (l' := (opsAt g29f47_1p0).toList.drop 7) (eE := E1) (H' := (mkH [⟨[.str b_3], 0, false⟩, ⟨[.vec (b_4).length 3 ((b_4).flatMap e47)], 0, false⟩, ⟨[.own 3 (b3).length 4], 1, false⟩, ⟨(b3).flatMap e37, 0, false⟩])) (hs := []) (by kernel_rfl) (opsD_call (l' := (opsAt g29f47_1p0).toList.drop 8) (eE := ((16, .bool x0_7) :: E1)) (hs := [(mkH [⟨[.str b_3], 0, false⟩, ⟨[.vec (b_4).length 3 ((b_4).flatMap e47)], 0, false⟩, ⟨[.own 3 (b3).length 4], 1, false⟩, ⟨(b3).flatMap e37, 0, false⟩])]) (fi := 37) (args := [.str b_3, .vec (b_4).length 3 ((b_4).flatMap e47), .int .i64 a_0]) (v := .bool x0_7) (by kernel_rfl) (by kernel_rfl) (by kernel_rfl) (g37_ok k b_3 b_4 a_0 x0_7 hx0_7) (by kernel_rfl) (opsD_run 2 (l' := (opsAt g29f47_1p0).toList.drop 10) (eE := ((18, .slice 4 4 0 1 4) :: (17, .agg [.int .i64 a_0, .int .i64 a_1, .bool a_2, .bool x0_7]) :: (16, .bool x0_7) :: E1)) (H' := (mkH [⟨[.str b_3], 0, false⟩, ⟨[.vec (b_4).length 3 ((b_4).flatMap e47)], 0, false⟩, ⟨[.own 3 (b3).length 4], 1, false⟩, ⟨(b3).flatMap e37, 0, false⟩, ⟨[.int .i64 a_0, .int .i64 a_1, .bool a_2, .bool x0_7], 0, false⟩])) (hs := [(mkH [⟨[.str b_3], 0, false⟩, ⟨[.vec (b_4).length 3 ((b_4).flatMap e47)], 0, false⟩, ⟨[.own 3 (b3).length 4], 1, false⟩, ⟨(b3).flatMap e37, 0, false⟩, ⟨[.int .i64 a_0, .int .i64 a_1, .bool a_2, .bool x0_7], 0, false⟩])]) (by kernel_rfl) (opsD_chk (l' := (opsAt g29f47_1p0).toList.drop 11) (eE := ((19, .own 3 (x0_10).length 4) :: (18, .slice 4 4 0 1 4) :: (17, .agg [.int .i64 a_0, .int .i64 a_1, .bool a_2, .bool x0_7]) :: (16, .bool x0_7) :: E1)) (hs := [(mkH [⟨[.str b_3], 0, false⟩, ⟨[.vec (b_4).length 3 ((b_4).flatMap e47)], 0, false⟩, ⟨[.own 3 (b3).length 4], 1, false⟩, ⟨(x0_10).flatMap e37, 0, false⟩, ⟨[.int .i64 a_0, .int .i64 a_1, .bool a_2, .bool x0_7], 0, false⟩])]) (x := x0_10) (fun (x0_10 : (List S36)) => (.own 3 (x0_10).length 4, (mkH [⟨[.str b_3], 0, false⟩, ⟨[.vec (b_4).length 3 ((b_4).flatMap e47)], 0, false⟩, ⟨[.own 3 (b3).length 4], 1, false⟩, ⟨(x0_10).flatMap e37, 0, false⟩, ⟨[.int .i64 a_0, .int .i64 a_1, .bool a_2, .bool x0_7], 0, false⟩]))) (appH (sz := 4) e37_len rfl e37_one [⟨[.str b_3], 0, false⟩, ⟨[.vec (b_4).length 3 ((b_4).flatMap e47)], 0, false⟩, ⟨[.own 3 (b3).length 4], 1, false⟩, ⟨(b3).flatMap e37, 0, false⟩, ⟨[.int .i64 a_0, .int .i64 a_1, .bool a_2, .bool x0_7], 0, false⟩] 3 24 b3 ([(⟨a_0, a_1, a_2, x0_7⟩ : S36)] : List S36) rfl rfl (by kernel_rfl)) hx0_10 (by kernel_rfl) (opsD_run 1 (l' := (opsAt g29f47_1p0).toList.drop 12) (eE := ((19, .own 3 (x0_10).length 4) :: (18, .slice 4 4 0 1 4) :: (17, .agg [.int .i64 a_0, .int .i64 a_1, .bool a_2, .bool x0_7]) :: (16, .bool x0_7) :: E1)) (H' := (mkH [⟨[.str b_3], 0, false⟩, ⟨[.vec (b_4).length 3 ((b_4).flatMap e47)], 0, false⟩, ⟨[.own 3 (x0_10).length 4], 1, false⟩, ⟨(x0_10).flatMap e37, 0, false⟩, ⟨[.int .i64 a_0, .int .i64 a_1, .bool a_2, .bool x0_7], 0, false⟩])) (hs := [(mkH [⟨[.str b_3], 0, false⟩, ⟨[.vec (b_4).length 3 ((b_4).flatMap e47)], 0, false⟩, ⟨[.own 3 (x0_10).length 4], 1, false⟩, ⟨(x0_10).flatMap e37, 0, false⟩, ⟨[.int .i64 a_0, .int .i64 a_1, .bool a_2, .bool x0_7], 0, false⟩])]) (by kernel_rfl) (.nil)))))) (by kernel_rfl) (by kernel_rfl) (by kernel_rfl) ?_
 refine oK [] (eE := []) (by kernel_rfl) ?_
 refine ok_cut [⟨[.str b_3], 0, false⟩, ⟨[.vec (b_4).length 3 ((b_4).flatMap e47)], 0, false⟩, ⟨[.own 3 (x0_10).length 4], 1, false⟩, ⟨(x0_10).flatMap e37, 0, false⟩] [⟨[.int .i64 a_0, .int .i64 a_1, .bool a_2, .bool x0_7], 0, false⟩] (by kernel_rfl) rfl (by kernel_rfl) ⟨(by kernel_rfl), ⟨(by kernel_rfl), ⟨(by kernel_rfl), ⟨(purs_belows _ (purs_flatMap e37_pur _)), trivial⟩⟩⟩⟩ ?_
 exact ok_retM (r := x0_10) (xs := []) (by kernel_rfl) (by kernel_rfl) (by kernel_rfl) (by kernel_rfl)
def g29p0 : Pt := nav [0] (bodyAt Try.f29)
def g29p1 : Pt := nav [0, 0, 0] g29p0
def g29p2 : Pt := nav [0, 0, 0] g29p1
def g29p3 : Pt := nav [0, 0, 0, 0] g29p2
def g29p4 : Pt := nav [0, 0, 0, 0] g29p3
def g29p5 : Pt := nav [0, 0, 0] g29p4
def g29p6 : Pt := nav [0, 0] g29p5
def g29p7 : Pt := nav [1, 0, 0, 0, 0] g29p6
def g29p9 : Pt := nav [0, 0] g29p7
def g29p11 : Pt := nav [1, 0] g29p9
def g29p12 : Pt := nav [2, 0, 0] g29p9
def g29p13 : Pt := nav [0, 0, 0] g29p11
def g29p14 : Pt := nav [0, 0, 0, 0, 0] g29p12
def g29p15 : Pt := nav [0, 0, 0] g29p14
def g29p16 : Pt := nav [0, 0] g29p15
def g29p17 : Pt := nav [1, 0, 0, 0, 0, 0] g29p16
def g29p18 : Pt := nav [2, 0, 0] g29p16
def g29p19 : Pt := nav [0, 0] g29p17
def g29p22 : Pt := nav [2, 0, 0] g29p19
def g29p23 : Pt := nav [0, 0] g29p22
def g29_l6 (k : Nat) (c5 : Int → (List S36) → Option (List S36)) (a0 : (List Nat)) (a1 : (List S46)) (y5_0 : Int) (n : Nat) : Int → Int → Int → (List S36) → Option (List S36) :=
 Nat.rec (motive := fun _ => Int → Int → Int → (List S36) → Option (List S36)) (fun _ _ _ _ => none) (fun _ ih => fun (y6_0 : Int) (y6_1 : Int) (y6_2 : Int) (y6_3 : (List S36)) => jn (fun (z8 : Int × Int × (List S36)) => (g29f47_1 k z8.2.1 z8.1 false a0 a1 z8.2.2).bind fun x4_3 => c5 z8.1 x4_3) (fun j8 => if (decide (y6_0 < (a1.length : Int))) then ((nthL a1 y6_0).bind fun x2_2 => jn (fun (z7 : Int × Int × Int × (List S36)) => (nthL a1 z7.2.1).bind fun x3_2 => if (decide (x3_2.f0 = 10)) then (j8 (z7.1, z7.2.2.1, z7.2.2.2)) else (ih (fW .i64 (z7.2.1 + 1)) z7.1 z7.2.2.1 z7.2.2.2)) (fun j7 => if (!decide (x2_2.f0 = 11)) then (j7 (fW .i64 (y6_0 + 1), y6_0, y6_2, y6_3)) else (j7 (y6_1, y6_0, y6_2, y6_3)))) else (j8 (y6_1, y6_2, y6_3)))) n
theorem g29_l6_s (k : Nat) (c5 : Int → (List S36) → Option (List S36)) (a0 : (List Nat)) (a1 : (List S46)) (y5_0 : Int) (n : Nat) (y6_0 : Int) (y6_1 : Int) (y6_2 : Int) (y6_3 : (List S36)) : g29_l6 k c5 a0 a1 y5_0 (n + 1) y6_0 y6_1 y6_2 y6_3 = (jn (fun (z8 : Int × Int × (List S36)) => (g29f47_1 k z8.2.1 z8.1 false a0 a1 z8.2.2).bind fun x4_3 => c5 z8.1 x4_3) (fun j8 => if (decide (y6_0 < (a1.length : Int))) then ((nthL a1 y6_0).bind fun x2_2 => jn (fun (z7 : Int × Int × Int × (List S36)) => (nthL a1 z7.2.1).bind fun x3_2 => if (decide (x3_2.f0 = 10)) then (j8 (z7.1, z7.2.2.1, z7.2.2.2)) else ((g29_l6 k c5 a0 a1 y5_0 n) (fW .i64 (z7.2.1 + 1)) z7.1 z7.2.2.1 z7.2.2.2)) (fun j7 => if (!decide (x2_2.f0 = 11)) then (j7 (fW .i64 (y6_0 + 1), y6_0, y6_2, y6_3)) else (j7 (y6_1, y6_0, y6_2, y6_3)))) else (j8 (y6_1, y6_2, y6_3)))) := rfl
theorem g29_l6_ok (k : Nat) (c5 : Int → (List S36) → Option (List S36)) (a0 : (List Nat)) (a1 : (List S46)) (y5_0 : Int) (hc5 : ∀ (y5_0 : Int) (y5_1 : (List S36)), Ok X29 g29p4 [(3, .ptr 1 1 0), (5, .ptr 2 1 0), (6, .func 47 [] [.ptr 2 1 0, .ptr 0 1 0, .ptr 1 1 0]), (7, .int .i64 y5_0)] (mkH [⟨[.str a0], 0, false⟩, ⟨[.vec (a1).length 3 ((a1).flatMap e47)], 0, false⟩, ⟨[.own 3 (y5_1).length 4], 1, false⟩, ⟨(y5_1).flatMap e37, 0, false⟩]) (c5 y5_0 y5_1)) : ∀ (n : Nat) (y6_0 : Int) (y6_1 : Int) (y6_2 : Int) (y6_3 : (List S36)), Ok X29 g29p14 [(3, .ptr 1 1 0), (5, .ptr 2 1 0), (6, .func 47 [] [.ptr 2 1 0, .ptr 0 1 0, .ptr 1 1 0]), (7, .int .i64 y6_2), (8, .int .i64 y6_1), (9, .int .i64 y6_0)] (mkH [⟨[.str a0], 0, false⟩, ⟨[.vec (a1).length 3 ((a1).flatMap e47)], 0, false⟩, ⟨[.own 3 (y6_3).length 4], 1, false⟩, ⟨(y6_3).flatMap e37, 0, false⟩]) (g29_l6 k c5 a0 a1 y5_0 n y6_0 y6_1 y6_2 y6_3)
 | 0, _, _, _, _ => ok_none
 | n + 1, y6_0, y6_1, y6_2, y6_3 => by
  have ih := g29_l6_ok k c5 a0 a1 y5_0 hc5 n
  rw [g29_l6_s]
  refine ok_ent (p' := nav [0] g29p14) (by kernel_rfl) ?_
  let E7 : Env := [(34, .bool (decide (y6_0 < (a1.length : Int)))), (33, .int .i64 (a1.length : Int)), (32, .vec (a1).length 3 ((a1).flatMap e47)), (31, .int .i64 y6_0), (3, .ptr 1 1 0), (5, .ptr 2 1 0), (6, .func 47 [] [.ptr 2 1 0, .ptr 0 1 0, .ptr 1 1 0]), (7, .int .i64 y6_2), (8, .int .i64 y6_1), (9, .int .i64 y6_0)]
  refine oR 8 (p' := g29p16) (eE := E7) (H' := (mkH [⟨[.str a0], 0, false⟩, ⟨[.vec (a1).length 3 ((a1).flatMap e47)], 0, false⟩, ⟨[.own 3 (y6_3).length 4], 1, false⟩, ⟨(y6_3).flatMap e37, 0, false⟩])) (by kernel_rfl) ?_
  refine oJ (f := fun (z8 : Int × Int × (List S36)) => (g29f47_1 k z8.2.1 z8.1 false a0 a1 z8.2.2).bind fun x4_3 => c5 z8.1 x4_3) g29p18 (fun (z8 : Int × Int × (List S36)) => [(3, .ptr 1 1 0), (5, .ptr 2 1 0), (6, .func 47 [] [.ptr 2 1 0, .ptr 0 1 0, .ptr 1 1 0]), (7, .int .i64 z8.2.1), (8, .int .i64 z8.1)]) (fun (z8 : Int × Int × (List S36)) => (mkH [⟨[.str a0], 0, false⟩, ⟨[.vec (a1).length 3 ((a1).flatMap e47)], 0, false⟩, ⟨[.own 3 (z8.2.2).length 4], 1, false⟩, ⟨(z8.2.2).flatMap e37, 0, false⟩])) (fun z8 => ?_) (fun j8 hj8 => ?_)
  ·let E8 : Env := [(53, .int .i64 z8.1), (52, .int .i64 z8.2.1), (51, .func 47 [] [.ptr 2 1 0, .ptr 0 1 0, .ptr 1 1 0]), (3, .ptr 1 1 0), (5, .ptr 2 1 0), (6, .func 47 [] [.ptr 2 1 0, .ptr 0 1 0, .ptr 1 1 0]), (7, .int .i64 z8.2.1), (8, .int .i64 z8.1)]
   refine oR 4 (p' := (atN 3 (ctl1 g29p18))) (eE := E8) (H' := (mkH [⟨[.str a0], 0, false⟩, ⟨[.vec (a1).length 3 ((a1).flatMap e47)], 0, false⟩, ⟨[.own 3 (z8.2.2).length 4], 1, false⟩, ⟨(z8.2.2).flatMap e37, 0, false⟩])) (by kernel_rfl) ?_
   refine ok_callM (fun (x4_3 : (List S36)) => .tuple []) (fun (x4_3 : (List S36)) => (mkH [⟨[.str a0], 0, false⟩, ⟨[.vec (a1).length 3 ((a1).flatMap e47)], 0, false⟩, ⟨[.own 3 (x4_3).length 4], 1, false⟩, ⟨(x4_3).flatMap e37, 0, false⟩])) (atN 4 (ctl1 g29p18)) (fun x4_3 => ((54, .tuple []) :: E8)) (fi := 47) (args := [.int .i64 z8.2.1, .int .i64 z8.1, .bool false, .ptr 2 1 0, .ptr 0 1 0, .ptr 1 1 0]) (by kernel_rfl) (fun r h => g29f47_1_ok k z8.2.1 z8.1 false a0 a1 z8.2.2 r h) (fun _ => by kernel_rfl) (fun x4_3 hx4_3 => ?_)
   refine oR 5 (p' := g29p4) (eE := ((7, .int .i64 z8.1) :: (55, .int .i64 z8.1) :: (54, .tuple []) :: E8)) (H' := (mkH [⟨[.str a0], 0, false⟩, ⟨[.vec (a1).length 3 ((a1).flatMap e47)], 0, false⟩, ⟨[.own 3 (x4_3).length 4], 1, false⟩, ⟨(x4_3).flatMap e37, 0, false⟩])) (by kernel_rfl) ?_
   refine oK [3, 5, 6, 7] (eE := [(3, .ptr 1 1 0), (5, .ptr 2 1 0), (6, .func 47 [] [.ptr 2 1 0, .ptr 0 1 0, .ptr 1 1 0]), (7, .int .i64 z8.1)]) (by kernel_rfl) ?_
   exact hc5 z8.1 x4_3
  ·refine oS 34 (b := decide (y6_0 < (a1.length : Int))) (by kernel_rfl) (fun hb => ?_) (fun hb => ?_)
   ·refine oR 9 (p' := (atN 2 (ctl1 g29p17))) (eE := ((38, .int .i64 y6_0) :: (37, .vec (a1).length 3 ((a1).flatMap e47)) :: (34, .bool true) :: E7)) (H' := (mkH [⟨[.str a0], 0, false⟩, ⟨[.vec (a1).length 3 ((a1).flatMap e47)], 0, false⟩, ⟨[.own 3 (y6_3).length 4], 1, false⟩, ⟨(y6_3).flatMap e37, 0, false⟩])) (by kernel_rfl) ?_
    refine oH (fun (x2_2 : S46) => (.vptr [.int .i64 x2_2.f0, .str x2_2.f1, .int .i64 x2_2.f2], (mkH [⟨[.str a0], 0, false⟩, ⟨[.vec (a1).length 3 ((a1).flatMap e47)], 0, false⟩, ⟨[.own 3 (y6_3).length 4], 1, false⟩, ⟨(y6_3).flatMap e37, 0, false⟩]))) (atN 3 (ctl1 g29p17)) (fun x2_2 => ((39, .vptr [.int .i64 x2_2.f0, .str x2_2.f1, .int .i64 x2_2.f2]) :: (38, .int .i64 y6_0) :: (37, .vec (a1).length 3 ((a1).flatMap e47)) :: (34, .bool true) :: E7)) (vidxH (sz := 3) e47_len (by kernel_rfl)) (fun _ => by kernel_rfl) (fun x2_2 hx2_2 => ?_)
    let E9 : Env := ((42, .bool (!decide (x2_2.f0 = 11))) :: (41, .int .i64 x2_2.f0) :: (40, .vptr [.int .i64 x2_2.f0, .str x2_2.f1, .int .i64 x2_2.f2]) :: (39, .vptr [.int .i64 x2_2.f0, .str x2_2.f1, .int .i64 x2_2.f2]) :: (38, .int .i64 y6_0) :: (37, .vec (a1).length 3 ((a1).flatMap e47)) :: (34, .bool true) :: E7)
    refine oR 4 (p' := g29p19) (eE := E9) (H' := (mkH [⟨[.str a0], 0, false⟩, ⟨[.vec (a1).length 3 ((a1).flatMap e47)], 0, false⟩, ⟨[.own 3 (y6_3).length 4], 1, false⟩, ⟨(y6_3).flatMap e37, 0, false⟩])) (by kernel_rfl) ?_
    refine oK [3, 5, 6, 7, 8, 9, 42] (eE := [(3, .ptr 1 1 0), (5, .ptr 2 1 0), (6, .func 47 [] [.ptr 2 1 0, .ptr 0 1 0, .ptr 1 1 0]), (7, .int .i64 y6_2), (8, .int .i64 y6_1), (9, .int .i64 y6_0), (42, .bool (!decide (x2_2.f0 = 11)))]) (by kernel_rfl) ?_
    refine oJ (f := fun (z7 : Int × Int × Int × (List S36)) => (nthL a1 z7.2.1).bind fun x3_2 => if (decide (x3_2.f0 = 10)) then (j8 (z7.1, z7.2.2.1, z7.2.2.2)) else ((g29_l6 k c5 a0 a1 y5_0 n) (fW .i64 (z7.2.1 + 1)) z7.1 z7.2.2.1 z7.2.2.2)) g29p22 (fun (z7 : Int × Int × Int × (List S36)) => [(3, .ptr 1 1 0), (5, .ptr 2 1 0), (6, .func 47 [] [.ptr 2 1 0, .ptr 0 1 0, .ptr 1 1 0]), (7, .int .i64 z7.2.2.1), (8, .int .i64 z7.1), (9, .int .i64 z7.2.1)]) (fun (z7 : Int × Int × Int × (List S36)) => (mkH [⟨[.str a0], 0, false⟩, ⟨[.vec (a1).length 3 ((a1).flatMap e47)], 0, false⟩, ⟨[.own 3 (z7.2.2.2).length 4], 1, false⟩, ⟨(z7.2.2.2).flatMap e37, 0, false⟩])) (fun z7 => ?_) (fun j7 hj7 => ?_)
    ·let E10 : Env := [(46, .int .i64 z7.2.1), (45, .vec (a1).length 3 ((a1).flatMap e47)), (3, .ptr 1 1 0), (5, .ptr 2 1 0), (6, .func 47 [] [.ptr 2 1 0, .ptr 0 1 0, .ptr 1 1 0]), (7, .int .i64 z7.2.2.1), (8, .int .i64 z7.1), (9, .int .i64 z7.2.1)]
     refine oR 3 (p' := (atN 2 (ctl1 g29p22))) (eE := E10) (H' := (mkH [⟨[.str a0], 0, false⟩, ⟨[.vec (a1).length 3 ((a1).flatMap e47)], 0, false⟩, ⟨[.own 3 (z7.2.2.2).length 4], 1, false⟩, ⟨(z7.2.2.2).flatMap e37, 0, false⟩])) (by kernel_rfl) ?_
     refine oH (fun (x3_2 : S46) => (.vptr [.int .i64 x3_2.f0, .str x3_2.f1, .int .i64 x3_2.f2], (mkH [⟨[.str a0], 0, false⟩, ⟨[.vec (a1).length 3 ((a1).flatMap e47)], 0, false⟩, ⟨[.own 3 (z7.2.2.2).length 4], 1, false⟩, ⟨(z7.2.2.2).flatMap e37, 0, false⟩]))) (atN 3 (ctl1 g29p22)) (fun x3_2 => ((47, .vptr [.int .i64 x3_2.f0, .str x3_2.f1, .int .i64 x3_2.f2]) :: E10)) (vidxH (sz := 3) e47_len (by kernel_rfl)) (fun _ => by kernel_rfl) (fun x3_2 hx3_2 => ?_)
     refine oR 4 (p' := g29p23) (eE := ((50, .bool (decide (x3_2.f0 = 10))) :: (49, .int .i64 x3_2.f0) :: (48, .vptr [.int .i64 x3_2.f0, .str x3_2.f1, .int .i64 x3_2.f2]) :: (47, .vptr [.int .i64 x3_2.f0, .str x3_2.f1, .int .i64 x3_2.f2]) :: E10)) (H' := (mkH [⟨[.str a0], 0, false⟩, ⟨[.vec (a1).length 3 ((a1).flatMap e47)], 0, false⟩, ⟨[.own 3 (z7.2.2.2).length 4], 1, false⟩, ⟨(z7.2.2.2).flatMap e37, 0, false⟩])) (by kernel_rfl) ?_
     refine oS 50 (b := decide (x3_2.f0 = 10)) (by kernel_rfl) (fun hb => ?_) (fun hb => ?_)
     ·let E11 : Env := ((50, .bool true) :: (50, .bool (decide (x3_2.f0 = 10))) :: (49, .int .i64 x3_2.f0) :: (48, .vptr [.int .i64 x3_2.f0, .str x3_2.f1, .int .i64 x3_2.f2]) :: (47, .vptr [.int .i64 x3_2.f0, .str x3_2.f1, .int .i64 x3_2.f2]) :: E10)
      refine oR 3 (p' := g29p18) (eE := E11) (H' := (mkH [⟨[.str a0], 0, false⟩, ⟨[.vec (a1).length 3 ((a1).flatMap e47)], 0, false⟩, ⟨[.own 3 (z7.2.2.2).length 4], 1, false⟩, ⟨(z7.2.2.2).flatMap e37, 0, false⟩])) (by kernel_rfl) ?_
      refine oK [3, 5, 6, 7, 8] (eE := [(3, .ptr 1 1 0), (5, .ptr 2 1 0), (6, .func 47 [] [.ptr 2 1 0, .ptr 0 1 0, .ptr 1 1 0]), (7, .int .i64 z7.2.2.1), (8, .int .i64 z7.1)]) (by kernel_rfl) ?_
      exact hj8 (z7.1, z7.2.2.1, z7.2.2.2)
     ·let E12 : Env := ((9, .int .i64 (fW .i64 (z7.2.1 + 1))) :: (36, .int .i64 (fW .i64 (z7.2.1 + 1))) :: (35, .int .i64 z7.2.1) :: (50, .bool false) :: (50, .bool (decide (x3_2.f0 = 10))) :: (49, .int .i64 x3_2.f0) :: (48, .vptr [.int .i64 x3_2.f0, .str x3_2.f1, .int .i64 x3_2.f2]) :: (47, .vptr [.int .i64 x3_2.f0, .str x3_2.f1, .int .i64 x3_2.f2]) :: E10)
      refine oR 7 (p' := g29p14) (eE := E12) (H' := (mkH [⟨[.str a0], 0, false⟩, ⟨[.vec (a1).length 3 ((a1).flatMap e47)], 0, false⟩, ⟨[.own 3 (z7.2.2.2).length 4], 1, false⟩, ⟨(z7.2.2.2).flatMap e37, 0, false⟩])) (by kernel_rfl) ?_
      refine oK [3, 5, 6, 7, 8, 9] (eE := [(3, .ptr 1 1 0), (5, .ptr 2 1 0), (6, .func 47 [] [.ptr 2 1 0, .ptr 0 1 0, .ptr 1 1 0]), (7, .int .i64 z7.2.2.1), (8, .int .i64 z7.1), (9, .int .i64 (fW .i64 (z7.2.1 + 1)))]) (by kernel_rfl) ?_
      exact ih (fW .i64 (z7.2.1 + 1)) z7.1 z7.2.2.1 z7.2.2.2
    ·refine oS 42 (b := !decide (x2_2.f0 = 11)) (by kernel_rfl) (fun hb => ?_) (fun hb => ?_)
     ·let E13 : Env := [(8, .int .i64 (fW .i64 (y6_0 + 1))), (44, .int .i64 (fW .i64 (y6_0 + 1))), (43, .int .i64 y6_0), (42, .bool true), (3, .ptr 1 1 0), (5, .ptr 2 1 0), (6, .func 47 [] [.ptr 2 1 0, .ptr 0 1 0, .ptr 1 1 0]), (7, .int .i64 y6_2), (8, .int .i64 y6_1), (9, .int .i64 y6_0), (42, .bool (!decide (x2_2.f0 = 11)))]
      refine oR 7 (p' := g29p22) (eE := E13) (H' := (mkH [⟨[.str a0], 0, false⟩, ⟨[.vec (a1).length 3 ((a1).flatMap e47)], 0, false⟩, ⟨[.own 3 (y6_3).length 4], 1, false⟩, ⟨(y6_3).flatMap e37, 0, false⟩])) (by kernel_rfl) ?_
      refine oK [3, 5, 6, 7, 8, 9] (eE := [(3, .ptr 1 1 0), (5, .ptr 2 1 0), (6, .func 47 [] [.ptr 2 1 0, .ptr 0 1 0, .ptr 1 1 0]), (7, .int .i64 y6_2), (8, .int .i64 (fW .i64 (y6_0 + 1))), (9, .int .i64 y6_0)]) (by kernel_rfl) ?_
      exact hj7 (fW .i64 (y6_0 + 1), y6_0, y6_2, y6_3)
     ·let E14 : Env := [(42, .bool false), (3, .ptr 1 1 0), (5, .ptr 2 1 0), (6, .func 47 [] [.ptr 2 1 0, .ptr 0 1 0, .ptr 1 1 0]), (7, .int .i64 y6_2), (8, .int .i64 y6_1), (9, .int .i64 y6_0), (42, .bool (!decide (x2_2.f0 = 11)))]
      refine oR 3 (p' := g29p22) (eE := E14) (H' := (mkH [⟨[.str a0], 0, false⟩, ⟨[.vec (a1).length 3 ((a1).flatMap e47)], 0, false⟩, ⟨[.own 3 (y6_3).length 4], 1, false⟩, ⟨(y6_3).flatMap e37, 0, false⟩])) (by kernel_rfl) ?_
      refine oK [3, 5, 6, 7, 8, 9] (eE := [(3, .ptr 1 1 0), (5, .ptr 2 1 0), (6, .func 47 [] [.ptr 2 1 0, .ptr 0 1 0, .ptr 1 1 0]), (7, .int .i64 y6_2), (8, .int .i64 y6_1), (9, .int .i64 y6_0)]) (by kernel_rfl) ?_
      exact hj7 (y6_1, y6_0, y6_2, y6_3)
   ·refine oR 3 (p' := g29p18) (eE := ((34, .bool false) :: E7)) (H' := (mkH [⟨[.str a0], 0, false⟩, ⟨[.vec (a1).length 3 ((a1).flatMap e47)], 0, false⟩, ⟨[.own 3 (y6_3).length 4], 1, false⟩, ⟨(y6_3).flatMap e37, 0, false⟩])) (by kernel_rfl) ?_
    refine oK [3, 5, 6, 7, 8] (eE := [(3, .ptr 1 1 0), (5, .ptr 2 1 0), (6, .func 47 [] [.ptr 2 1 0, .ptr 0 1 0, .ptr 1 1 0]), (7, .int .i64 y6_2), (8, .int .i64 y6_1)]) (by kernel_rfl) ?_
    exact hj8 (y6_1, y6_2, y6_3)
def g29_l5 (k : Nat)  (a0 : (List Nat)) (a1 : (List S46)) (n : Nat) : Int → (List S36) → Option (List S36) :=
 Nat.rec (motive := fun _ => Int → (List S36) → Option (List S36)) (fun _ _ => none) (fun _ ih => fun (y5_0 : Int) (y5_1 : (List S36)) => if (decide (y5_0 < (a1.length : Int))) then ((nthL a1 y5_0).bind fun x0_2 => if (decide (x0_2.f0 = 11)) then ((g29f47_1 k y5_0 (fW .i64 (y5_0 + 1)) true a0 a1 y5_1).bind fun x1_4 => ih (fW .i64 (y5_0 + 1)) x1_4) else (g29_l6 k ih a0 a1 y5_0 k y5_0 (fW .i64 (y5_0 + 1)) y5_0 y5_1)) else (some y5_1)) n
theorem g29_l5_s (k : Nat)  (a0 : (List Nat)) (a1 : (List S46)) (n : Nat) (y5_0 : Int) (y5_1 : (List S36)) : g29_l5 k a0 a1 (n + 1) y5_0 y5_1 = (if (decide (y5_0 < (a1.length : Int))) then ((nthL a1 y5_0).bind fun x0_2 => if (decide (x0_2.f0 = 11)) then ((g29f47_1 k y5_0 (fW .i64 (y5_0 + 1)) true a0 a1 y5_1).bind fun x1_4 => (g29_l5 k a0 a1 n) (fW .i64 (y5_0 + 1)) x1_4) else (g29_l6 k (g29_l5 k a0 a1 n) a0 a1 y5_0 k y5_0 (fW .i64 (y5_0 + 1)) y5_0 y5_1)) else (some y5_1)) := rfl
theorem g29_l5_ok (k : Nat)  (a0 : (List Nat)) (a1 : (List S46))  : ∀ (n : Nat) (y5_0 : Int) (y5_1 : (List S36)), Ok X29 g29p4 [(3, .ptr 1 1 0), (5, .ptr 2 1 0), (6, .func 47 [] [.ptr 2 1 0, .ptr 0 1 0, .ptr 1 1 0]), (7, .int .i64 y5_0)] (mkH [⟨[.str a0], 0, false⟩, ⟨[.vec (a1).length 3 ((a1).flatMap e47)], 0, false⟩, ⟨[.own 3 (y5_1).length 4], 1, false⟩, ⟨(y5_1).flatMap e37, 0, false⟩]) (g29_l5 k a0 a1 n y5_0 y5_1)
 | 0, _, _ => ok_none
 | n + 1, y5_0, y5_1 => by
  have ih := g29_l5_ok k a0 a1 n
  rw [g29_l5_s]
  refine ok_ent (p' := nav [0] g29p4) (by kernel_rfl) ?_
  let E2 : Env := [(14, .bool (decide (y5_0 < (a1.length : Int)))), (13, .int .i64 (a1.length : Int)), (12, .vec (a1).length 3 ((a1).flatMap e47)), (11, .int .i64 y5_0), (3, .ptr 1 1 0), (5, .ptr 2 1 0), (6, .func 47 [] [.ptr 2 1 0, .ptr 0 1 0, .ptr 1 1 0]), (7, .int .i64 y5_0)]
  refine oR 8 (p' := g29p6) (eE := E2) (H' := (mkH [⟨[.str a0], 0, false⟩, ⟨[.vec (a1).length 3 ((a1).flatMap e47)], 0, false⟩, ⟨[.own 3 (y5_1).length 4], 1, false⟩, ⟨(y5_1).flatMap e37, 0, false⟩])) (by kernel_rfl) ?_
  refine oS 14 (b := decide (y5_0 < (a1.length : Int))) (by kernel_rfl) (fun hb => ?_) (fun hb => ?_)
  ·refine oR 8 (p' := (atN 2 (ctl1 g29p7))) (eE := ((16, .int .i64 y5_0) :: (15, .vec (a1).length 3 ((a1).flatMap e47)) :: (14, .bool true) :: E2)) (H' := (mkH [⟨[.str a0], 0, false⟩, ⟨[.vec (a1).length 3 ((a1).flatMap e47)], 0, false⟩, ⟨[.own 3 (y5_1).length 4], 1, false⟩, ⟨(y5_1).flatMap e37, 0, false⟩])) (by kernel_rfl) ?_
   refine oH (fun (x0_2 : S46) => (.vptr [.int .i64 x0_2.f0, .str x0_2.f1, .int .i64 x0_2.f2], (mkH [⟨[.str a0], 0, false⟩, ⟨[.vec (a1).length 3 ((a1).flatMap e47)], 0, false⟩, ⟨[.own 3 (y5_1).length 4], 1, false⟩, ⟨(y5_1).flatMap e37, 0, false⟩]))) (atN 3 (ctl1 g29p7)) (fun x0_2 => ((17, .vptr [.int .i64 x0_2.f0, .str x0_2.f1, .int .i64 x0_2.f2]) :: (16, .int .i64 y5_0) :: (15, .vec (a1).length 3 ((a1).flatMap e47)) :: (14, .bool true) :: E2)) (vidxH (sz := 3) e47_len (by kernel_rfl)) (fun _ => by kernel_rfl) (fun x0_2 hx0_2 => ?_)
   let E3 : Env := ((20, .bool (decide (x0_2.f0 = 11))) :: (19, .int .i64 x0_2.f0) :: (18, .vptr [.int .i64 x0_2.f0, .str x0_2.f1, .int .i64 x0_2.f2]) :: (17, .vptr [.int .i64 x0_2.f0, .str x0_2.f1, .int .i64 x0_2.f2]) :: (16, .int .i64 y5_0) :: (15, .vec (a1).length 3 ((a1).flatMap e47)) :: (14, .bool true) :: E2)
   refine oR 4 (p' := g29p9) (eE := E3) (H' := (mkH [⟨[.str a0], 0, false⟩, ⟨[.vec (a1).length 3 ((a1).flatMap e47)], 0, false⟩, ⟨[.own 3 (y5_1).length 4], 1, false⟩, ⟨(y5_1).flatMap e37, 0, false⟩])) (by kernel_rfl) ?_
   refine oK [3, 5, 6, 7, 20] (eE := [(3, .ptr 1 1 0), (5, .ptr 2 1 0), (6, .func 47 [] [.ptr 2 1 0, .ptr 0 1 0, .ptr 1 1 0]), (7, .int .i64 y5_0), (20, .bool (decide (x0_2.f0 = 11)))]) (by kernel_rfl) ?_
   refine oS 20 (b := decide (x0_2.f0 = 11)) (by kernel_rfl) (fun hb => ?_) (fun hb => ?_)
   ·let E4 : Env := [(24, .int .i64 (fW .i64 (y5_0 + 1))), (23, .int .i64 y5_0), (22, .int .i64 y5_0), (21, .func 47 [] [.ptr 2 1 0, .ptr 0 1 0, .ptr 1 1 0]), (20, .bool true), (3, .ptr 1 1 0), (5, .ptr 2 1 0), (6, .func 47 [] [.ptr 2 1 0, .ptr 0 1 0, .ptr 1 1 0]), (7, .int .i64 y5_0), (20, .bool (decide (x0_2.f0 = 11)))]
    refine oR 7 (p' := (atN 4 (ctl1 g29p11))) (eE := E4) (H' := (mkH [⟨[.str a0], 0, false⟩, ⟨[.vec (a1).length 3 ((a1).flatMap e47)], 0, false⟩, ⟨[.own 3 (y5_1).length 4], 1, false⟩, ⟨(y5_1).flatMap e37, 0, false⟩])) (by kernel_rfl) ?_
    refine ok_callM (fun (x1_4 : (List S36)) => .tuple []) (fun (x1_4 : (List S36)) => (mkH [⟨[.str a0], 0, false⟩, ⟨[.vec (a1).length 3 ((a1).flatMap e47)], 0, false⟩, ⟨[.own 3 (x1_4).length 4], 1, false⟩, ⟨(x1_4).flatMap e37, 0, false⟩])) (atN 5 (ctl1 g29p11)) (fun x1_4 => ((25, .tuple []) :: E4)) (fi := 47) (args := [.int .i64 y5_0, .int .i64 (fW .i64 (y5_0 + 1)), .bool true, .ptr 2 1 0, .ptr 0 1 0, .ptr 1 1 0]) (by kernel_rfl) (fun r h => g29f47_1_ok k y5_0 (fW .i64 (y5_0 + 1)) true a0 a1 y5_1 r h) (fun _ => by kernel_rfl) (fun x1_4 hx1_4 => ?_)
    refine oR 2 (p' := g29p13) (eE := ((25, .tuple []) :: E4)) (H' := (mkH [⟨[.str a0], 0, false⟩, ⟨[.vec (a1).length 3 ((a1).flatMap e47)], 0, false⟩, ⟨[.own 3 (x1_4).length 4], 1, false⟩, ⟨(x1_4).flatMap e37, 0, false⟩])) (by kernel_rfl) ?_
    refine oK [3, 5, 6, 7] (eE := [(3, .ptr 1 1 0), (5, .ptr 2 1 0), (6, .func 47 [] [.ptr 2 1 0, .ptr 0 1 0, .ptr 1 1 0]), (7, .int .i64 y5_0)]) (by kernel_rfl) ?_
    let E5 : Env := [(7, .int .i64 (fW .i64 (y5_0 + 1))), (27, .int .i64 (fW .i64 (y5_0 + 1))), (26, .int .i64 y5_0), (3, .ptr 1 1 0), (5, .ptr 2 1 0), (6, .func 47 [] [.ptr 2 1 0, .ptr 0 1 0, .ptr 1 1 0]), (7, .int .i64 y5_0)]
    refine oR 6 (p' := g29p4) (eE := E5) (H' := (mkH [⟨[.str a0], 0, false⟩, ⟨[.vec (a1).length 3 ((a1).flatMap e47)], 0, false⟩, ⟨[.own 3 (x1_4).length 4], 1, false⟩, ⟨(x1_4).flatMap e37, 0, false⟩])) (by kernel_rfl) ?_
    refine oK [3, 5, 6, 7] (eE := [(3, .ptr 1 1 0), (5, .ptr 2 1 0), (6, .func 47 [] [.ptr 2 1 0, .ptr 0 1 0, .ptr 1 1 0]), (7, .int .i64 (fW .i64 (y5_0 + 1)))]) (by kernel_rfl) ?_
    exact ih (fW .i64 (y5_0 + 1)) x1_4
   ·let E6 : Env := [(9, .int .i64 y5_0), (8, .int .i64 (fW .i64 (y5_0 + 1))), (30, .int .i64 y5_0), (29, .int .i64 (fW .i64 (y5_0 + 1))), (28, .int .i64 y5_0), (20, .bool false), (3, .ptr 1 1 0), (5, .ptr 2 1 0), (6, .func 47 [] [.ptr 2 1 0, .ptr 0 1 0, .ptr 1 1 0]), (7, .int .i64 y5_0), (20, .bool (decide (x0_2.f0 = 11)))]
    refine oR 13 (p' := g29p14) (eE := E6) (H' := (mkH [⟨[.str a0], 0, false⟩, ⟨[.vec (a1).length 3 ((a1).flatMap e47)], 0, false⟩, ⟨[.own 3 (y5_1).length 4], 1, false⟩, ⟨(y5_1).flatMap e37, 0, false⟩])) (by kernel_rfl) ?_
    refine oK [3, 5, 6, 7, 8, 9] (eE := [(3, .ptr 1 1 0), (5, .ptr 2 1 0), (6, .func 47 [] [.ptr 2 1 0, .ptr 0 1 0, .ptr 1 1 0]), (7, .int .i64 y5_0), (8, .int .i64 (fW .i64 (y5_0 + 1))), (9, .int .i64 y5_0)]) (by kernel_rfl) ?_
    exact (g29_l6_ok k (g29_l5 k a0 a1 n) a0 a1 y5_0 ih k) y5_0 (fW .i64 (y5_0 + 1)) y5_0 y5_1
  ·refine oR 8 (p' := .fin) (eE := ((4, .own 3 (y5_1).length 4) :: (56, .own 3 (y5_1).length 4) :: (14, .bool false) :: E2)) (H' := (mkH [⟨[.str a0], 0, false⟩, ⟨[.vec (a1).length 3 ((a1).flatMap e47)], 0, false⟩, ⟨[.own 3 (y5_1).length 4], 1, false⟩, ⟨(y5_1).flatMap e37, 0, false⟩])) (by kernel_rfl) ?_
   exact oT (r := y5_1) (xs := [.own 3 (y5_1).length 4]) (v := .vec (y5_1).length 4 ((y5_1).flatMap e37)) (by kernel_rfl) (by kernel_rfl) (by kernel_rfl) (fz_own e37_len e37_pur rfl rfl (.pures (by kernel_rfl))) (by kernel_rfl)
def g29 (k : Nat) (a0 : (List Nat)) (a1 : (List S46)) : Option (List S36) :=
 g29_l5 k a0 a1 k 0 ([] : List S36)
theorem g29_ok (k : Nat) (a0 : (List Nat)) (a1 : (List S46)) (r : (List S36)) (h : g29 k a0 a1 = some r) : PureOk Try.prog 29 [.str a0, .vec (a1).length 3 ((a1).flatMap e47)] (.vec (r).length 4 ((r).flatMap e37)) := by
 refine pure_of X29 (fun _ => rfl) Try.func29 (by decide +kernel) (by kernel_rfl) (t := g29 k a0 a1) ?_ h
 unfold g29
 refine oE (eE := [(0, .str a0), (1, .vec (a1).length 3 ((a1).flatMap e47))]) (by kernel_rfl) ?_
 let E1 : Env := [(5, .ptr 2 1 0), (4, .nils), (3, .ptr 1 1 0), (2, .ptr 0 1 0), (0, .str a0), (1, .vec (a1).length 3 ((a1).flatMap e47))]
 refine oR 9 (p' := (atN 1 (ctl1 g29p1))) (eE := E1) (H' := (mkH [⟨[.str a0], 0, false⟩, ⟨[.vec (a1).length 3 ((a1).flatMap e47)], 0, false⟩, ⟨[.nils], 0, false⟩])) (by kernel_rfl) ?_
 refine ok_ownc [⟨[.str a0], 0, false⟩, ⟨[.vec (a1).length 3 ((a1).flatMap e47)], 0, false⟩, ⟨[.nils], 0, false⟩] 2 0 4 0 [.nils] rfl rfl rfl ?_
 refine ok_heap (H' := (mkH [⟨[.str a0], 0, false⟩, ⟨[.vec (a1).length 3 ((a1).flatMap e47)], 0, false⟩, ⟨[.own 3 (([] : List S36)).length 4], 0, false⟩, ⟨(([] : List S36)).flatMap e37, 0, false⟩])) (by kernel_rfl) ?_
 refine oR 13 (p' := g29p4) (eE := ((7, .int .i64 0) :: (6, .func 47 [] [.ptr 2 1 0, .ptr 0 1 0, .ptr 1 1 0]) :: (10, .func 47 [] [.ptr 2 1 0, .ptr 0 1 0, .ptr 1 1 0]) :: E1)) (H' := (mkH [⟨[.str a0], 0, false⟩, ⟨[.vec (a1).length 3 ((a1).flatMap e47)], 0, false⟩, ⟨[.own 3 (([] : List S36)).length 4], 0, false⟩, ⟨(([] : List S36)).flatMap e37, 0, false⟩])) (by kernel_rfl) ?_
 refine oK [3, 5, 6, 7] (eE := [(3, .ptr 1 1 0), (5, .ptr 2 1 0), (6, .func 47 [] [.ptr 2 1 0, .ptr 0 1 0, .ptr 1 1 0]), (7, .int .i64 0)]) (by kernel_rfl) ?_
 refine ok_minv [⟨[.str a0], 0, false⟩, ⟨[.vec (a1).length 3 ((a1).flatMap e47)], 0, false⟩, ⟨[.own 3 (([] : List S36)).length 4], 0, false⟩, ⟨(([] : List S36)).flatMap e37, 0, false⟩] 2 [.own 3 (([] : List S36)).length 4] 0 1 rfl rfl (by decide) ?_
 refine ok_heap (H' := (mkH [⟨[.str a0], 0, false⟩, ⟨[.vec (a1).length 3 ((a1).flatMap e47)], 0, false⟩, ⟨[.own 3 (([] : List S36)).length 4], 1, false⟩, ⟨(([] : List S36)).flatMap e37, 0, false⟩])) (by kernel_rfl) ?_
 exact (g29_l5_ok k a0 a1 k) 0 ([] : List S36)
end
end Go.Proofs.Ytbmijiibfaacmaa.Am
set_option maxRecDepth 100000
set_option linter.unusedVariables false
set_option linter.unusedSimpArgs false
namespace Go.Proofs.Ytbmijiibfaacmaa.Am
open Go
def frmN : List Nat → Nat → Nat → Nat
 | [], _, e => e
 | c :: r, k, e => if c = 10 then (if c = 11 then e else k + 1) else frmN r (k + 1) (if c = 11 then e else k + 1)
def splN (bl : Nat → Bool) : Nat → List Nat → Nat → List (Nat × Nat × Bool × Bool)
 | 0, _, _ => []
 | _ + 1, [], _ => []
 | f + 1, c :: r, i => if c = 11 then (i, i + 1, true, bl i) :: splN bl f r (i + 1) else (i, frmN (c :: r) i (i + 1), false, bl i) :: splN bl f ((c :: r).drop (frmN (c :: r) i (i + 1) - i)) (frmN (c :: r) i (i + 1))
theorem frm_lo : ∀ (r : List Nat) (k e : Nat), e ≤ k → e ≤ frmN r k e ∧ frmN r k e ≤ k + r.length
 | [], k, e, h => by simp only [frmN, List.length_nil]; omega
 | c :: r, k, e, h => by
  simp only [frmN, List.length_cons]
  have h1 := frm_lo r (k + 1) e (by omega)
  have h2 := frm_lo r (k + 1) (k + 1) (Nat.le_refl _)
  split
  ·split <;> omega
  ·split <;> omega
theorem frm_bnd {c : Nat} (r : List Nat) (i : Nat) (h : c ≠ 11) : i + 1 ≤ frmN (c :: r) i (i + 1) ∧ frmN (c :: r) i (i + 1) ≤ i + r.length + 1 := by
 simp only [frmN, if_neg h]
 have h2 := frm_lo r (i + 1) (i + 1) (Nat.le_refl _)
 split <;> omega
def itm (x : Nat × Nat × Bool × Bool) : S36 := ⟨(x.1 : Int), (x.2.1 : Int), x.2.2.1, x.2.2.2⟩
abbrev kindsN (l : List (Nat × Nat × Nat)) : List Nat := l.map (fun x => x.1)
abbrev blkF (s : List Nat) (l : List (Nat × Nat × Nat)) : Nat → Bool := fun i => decide (2 ≤ ((gapI s l (i : Int) : Nat) : Int))
theorem splN_len (bl : Nat → Bool) : ∀ (f : Nat) (r : List Nat) (i : Nat), (splN bl f r i).length ≤ r.length
 | 0, r, i => by simp [splN]
 | f + 1, [], i => by simp [splN]
 | f + 1, c :: r, i => by
  simp only [splN]
  split
  ·have := splN_len bl f r (i + 1)
   simp only [List.length_cons]; omega
  ·rename_i h
   have b := frm_bnd r i h
   have := splN_len bl f ((c :: r).drop (frmN (c :: r) i (i + 1) - i)) (frmN (c :: r) i (i + 1))
   simp only [List.length_cons, List.length_drop] at this ⊢
   omega
theorem ap24 {acc : List S36} {v : S36} (h : acc.length ≤ 100000) : appS 24 acc [v] = some (acc ++ [v]) := by
 unfold appS; rw [if_pos (by simp only [List.length_cons, List.length_nil]; omega)]
theorem kinds_at {s : List Nat} {l : List (Nat × Nat × Nat)} {i c : Nat} {r : List Nat} (h : (kindsN l).drop i = c :: r) : ∃ x, nthL (l.map (mkTok s)) (i : Int) = some (mkTok s x) ∧ x.1 = c ∧ i < l.length := by
 rcases Nat.lt_or_ge i l.length with hi | hi
 ·obtain ⟨x, r', hx, -, -, -⟩ := dconsL (s := l) (i := i) hi
  refine ⟨x, map_drop' hx, ?_, hi⟩
  rw [kindsN, ← List.map_drop, hx, List.map_cons] at h
  exact (List.cons.inj h).1
 ·rw [kindsN, ← List.map_drop, List.drop_eq_nil_of_le hi] at h; cases h
theorem kinds_end {l : List (Nat × Nat × Nat)} {i : Nat} (h : (kindsN l).drop i = []) : l.length ≤ i := by
 rw [kindsN, ← List.map_drop] at h
 exact List.drop_eq_nil_iff.1 (List.map_eq_nil_iff.1 h)
theorem take_at {k : Nat} {s : List Nat} (hk : s.length + 10 ≤ k) (hl : s.length ≤ 2000) {l : List (Nat × Nat × Nat)} (ht : Toks s 0 l) (a e : Nat) (nt : Bool) {acc : List S36} (ha : acc.length ≤ 100000) :
 g29f47_1 k (a : Int) (e : Int) nt s (l.map (mkTok s)) acc = some (acc ++ [itm (a, e, nt, blkF s l a)]) := by
 unfold g29f47_1
 refine bS (by (try simp (disch := omega) only [fwI]); exact gblank_at hk hl ht (a : Int)) ?_
 refine bS (by (try simp (disch := omega) only [fwI]); exact ap24 ha) ?_
 rfl
theorem split_f {k : Nat} {s : List Nat} (hk : s.length + 10 ≤ k) (hl : s.length ≤ 2000) {l : List (Nat × Nat × Nat)} (ht : Toks s 0 l) (c5 : Int → List S36 → Option (List S36)) (y : Int) {acc : List S36} (ha : acc.length ≤ 100000) (cl : l.length ≤ 2000) (a : Nat) : ∀ (r : List Nat) (f i e : Nat), (kindsN l).drop i = r → r.length < f → e ≤ 3000 →
 g29_l6 k c5 s (l.map (mkTok s)) y f (i : Int) (e : Int) (a : Int) acc = c5 ((frmN r i e : Nat) : Int) (acc ++ [itm (a, frmN r i e, false, blkF s l a)])
 | r, 0, i, e, hr, hf, he => by omega
 | [], f + 1, i, e, hr, hf, he => by
  have := kinds_end hr
  rw [g29_l6_s]
  refine (jS (v := ((e : Int), (a : Int), acc)) (fun j => ?_)).trans ?_
  ·exact iF (dF (by rw [List.length_map]; omega)) rfl
  ·refine bS (by (try simp (disch := omega) only [fwI]); exact take_at hk hl ht a e false ha) ?_
   rfl
 | c :: r, f + 1, i, e, hr, hf, he => by
  obtain ⟨x, hx, hc, hi⟩ := kinds_at (s := s) hr
  have ih := split_f hk hl ht c5 y ha cl a r f (i + 1) (if c = 11 then e else i + 1) (drop_step hr) (by simp only [List.length_cons] at hf; omega) (by split <;> omega)
  rw [g29_l6_s]
  simp only [frmN]
  have fx : (mkTok s x).f0 = (c : Int) := by rw [← hc]; rfl
  by_cases h10 : c = 10
  ·rw [if_pos h10, if_neg (by omega)]
   refine (jS (v := (((i + 1 : Nat) : Int), (a : Int), acc)) (fun j => ?_)).trans ?_
   ·refine iT (dT (by rw [List.length_map]; omega)) ?_
    refine bS (by (try simp (disch := omega) only [fwI]); exact hx) ?_
    refine (jS (v := (((i + 1 : Nat) : Int), (i : Int), (a : Int), acc)) (fun j => ?_)).trans ?_
    ·refine iT (by rw [fx, dF (by omega)]; rfl) ?_
     rw [fw_s (by omega)]
    ·refine bS (by (try simp (disch := omega) only [fwI]); exact hx) ?_
     exact iT (dT (by rw [fx]; omega)) rfl
   ·refine bS (by (try simp (disch := omega) only [fwI]); exact take_at hk hl ht a (i + 1) false ha) ?_
    rfl
  ·rw [if_neg h10]
   refine (jC (r := g29_l6 k c5 s (l.map (mkTok s)) y f ((i + 1 : Nat) : Int) (((if c = 11 then e else i + 1) : Nat) : Int) (a : Int) acc) (fun j => ?_)).trans ih
   refine iT (dT (by rw [List.length_map]; omega)) ?_
   refine bS (by (try simp (disch := omega) only [fwI]); exact hx) ?_
   refine (jS (v := ((((if c = 11 then e else i + 1) : Nat) : Int), (i : Int), (a : Int), acc)) (fun j => ?_)).trans ?_
   ·by_cases h11 : c = 11
    ·refine iF (by rw [fx, dT (by omega)]; rfl) ?_
     rw [if_pos h11]
    ·refine iT (by rw [fx, dF (by omega)]; rfl) ?_
     rw [if_neg h11, fw_s (by omega)]
   ·refine bS (by (try simp (disch := omega) only [fwI]); exact hx) ?_
    refine iF (dF (by rw [fx]; omega)) ?_
    rw [fw_s (by omega)]
theorem split_l {k : Nat} {s : List Nat} (hk : s.length + 10 ≤ k) (hl : s.length ≤ 2000) {l : List (Nat × Nat × Nat)} (ht : Toks s 0 l) (cl : l.length ≤ s.length) : ∀ (f i : Nat) (r : List Nat) (acc : List S36), (kindsN l).drop i = r → r.length < f → i ≤ l.length → acc.length ≤ i →
 g29_l5 k s (l.map (mkTok s)) f (i : Int) acc = some (acc ++ (splN (blkF s l) f r i).map itm)
 | 0, i, r, acc, hr, hf, hi, ha => by omega
 | f + 1, i, [], acc, hr, hf, hi, ha => by
  have := kinds_end hr
  rw [g29_l5_s]
  refine iF (dF (by rw [List.length_map]; omega)) ?_
  simp [splN]
 | f + 1, i, c :: r, acc, hr, hf, hi, ha => by
  obtain ⟨x, hx, hc, hi⟩ := kinds_at (s := s) hr
  have fx : (mkTok s x).f0 = (c : Int) := by rw [← hc]; rfl
  rw [g29_l5_s]
  refine iT (dT (by rw [List.length_map]; omega)) ?_
  refine bS (by (try simp (disch := omega) only [fwI]); exact hx) ?_
  have rl : r.length + i + 1 = l.length := by have := drop_len hr; rw [kindsN, List.length_map] at this; exact this
  simp only [List.length_cons] at hf
  simp only [splN]
  by_cases h11 : c = 11
  ·refine iT (dT (by rw [fx]; omega)) ?_
   rw [fw_s (by omega), if_pos h11]
   refine bS (by (try simp (disch := omega) only [fwI]); exact take_at hk hl ht i (i + 1) true (acc := acc) (by omega)) ?_
   have ih := split_l hk hl ht cl f (i + 1) r (acc ++ [itm (i, i + 1, true, blkF s l i)]) (drop_step hr) (by omega) (by omega) (by simp only [List.length_append, List.length_cons, List.length_nil]; omega)
   refine ih.trans ?_
   simp only [List.append_assoc, List.map_cons, List.singleton_append]
  ·refine iF (dF (by rw [fx]; omega)) ?_
   rw [fw_s (by omega), if_neg h11]
   have b := frm_bnd r i h11
   refine (split_f hk hl ht _ _ (by omega) (by omega) i (c :: r) k i (i + 1) hr (by simp only [List.length_cons]; omega) (by omega)).trans ?_
   have hd : ∀ z, i ≤ z → (kindsN l).drop z = (c :: r).drop (z - i) := fun z hz => by rw [← hr, List.drop_drop]; congr 1; omega
   have ih := split_l hk hl ht cl f (frmN (c :: r) i (i + 1)) ((c :: r).drop (frmN (c :: r) i (i + 1) - i)) (acc ++ [itm (i, frmN (c :: r) i (i + 1), false, blkF s l i)]) (hd _ (by omega)) (by simp only [List.length_drop, List.length_cons]; omega) (by omega) (by simp only [List.length_append, List.length_cons, List.length_nil]; omega)
   refine ih.trans ?_
   simp only [List.append_assoc, List.map_cons, List.singleton_append]
theorem split_at {k : Nat} {s : List Nat} (hk : s.length + 10 ≤ k) (hl : s.length ≤ 2000) {l : List (Nat × Nat × Nat)} (ht : Toks s 0 l) : g29 k s (l.map (mkTok s)) = some ((splN (blkF s l) k (kindsN l) 0).map itm) := by
 have cl : l.length ≤ s.length := toks_len s (s.length + 1) 0 l ((toks_iff s (s.length + 1) 0 l (by omega)).2 ht) (Nat.zero_le _)
 unfold g29
 exact split_l hk hl ht cl k 0 (kindsN l) [] rfl (by rw [kindsN, List.length_map]; omega) (Nat.zero_le _) (Nat.zero_le _)
theorem splN_fuel (bl : Nat → Bool) : ∀ (f g : Nat) (r : List Nat) (i : Nat), r.length ≤ f → r.length ≤ g → splN bl f r i = splN bl g r i
 | 0, g, [], i, h, h2 => by cases g <;> rfl
 | 0, g, c :: r, i, h, h2 => by simp at h
 | f + 1, 0, [], i, h, h2 => rfl
 | f + 1, 0, c :: r, i, h, h2 => by simp at h2
 | f + 1, g + 1, [], i, h, h2 => rfl
 | f + 1, g + 1, c :: r, i, h, h2 => by
  simp only [List.length_cons] at h h2
  simp only [splN]
  split
  ·rw [splN_fuel bl f g r (i + 1) (by omega) (by omega)]
  ·rename_i hc
   have b := frm_bnd r i hc
   rw [splN_fuel bl f g _ _ (by simp only [List.length_drop, List.length_cons]; omega) (by simp only [List.length_drop, List.length_cons]; omega)]
end Go.Proofs.Ytbmijiibfaacmaa.Am
set_option maxRecDepth 100000
set_option linter.unusedVariables false
namespace Go.Proofs.Ytbmijiibfaacmaa.Am
noncomputable section
open Go
def X32 : Fx (List Nat) := ⟨Try.prog, cx, Try.f32, fun r => .str r, 0, fun _ => H0, cxTi, cxOrd⟩
def g32p0 : Pt := nav [0] (bodyAt Try.f32)
def g32p1 : Pt := nav [0, 0, 0, 0] g32p0
def g32p2 : Pt := nav [0, 0] g32p1
def g32p4 : Pt := nav [2, 0, 0] g32p2
def g32p6 : Pt := nav [0, 0, 0] g32p4
def g32p7 : Pt := nav [0, 0] g32p6
def g32p9 : Pt := nav [2, 0, 0] g32p7
def g32 (k : Nat) (a0 : (List Nat)) (a1 : (List S46)) (a2 : S36) : Option (List Nat) :=
 jn (fun (z2 : Bool) => if z2 then (some ([] : List Nat)) else ((nthL a1 a2.f0).bind fun x0_3 => (nthL a1 (fW .i64 (a2.f1 - 1))).bind fun x0_10 => (g38 k (⟨x0_10.f0, x0_10.f1, x0_10.f2⟩ : S46)).bind fun x0_12 => jn (fun (z3 : Bool) => if z3 then (some ([] : List Nat)) else ((subL a0 (some x0_3.f2) (some x0_12)).bind fun x1_3 => some x1_3)) (fun j3 => if (decide (x0_3.f2 < 0)) then (j3 true) else (if (decide ((a0.length : Int) < x0_12)) then (j3 true) else (j3 (decide (x0_12 < x0_3.f2))))))) (fun j2 => if (decide (a2.f0 < 0)) then (j2 true) else (if (decide ((a1.length : Int) < a2.f1)) then (j2 true) else (j2 (decide (a2.f1 ≤ a2.f0)))))
theorem g32_ok (k : Nat) (a0 : (List Nat)) (a1 : (List S46)) (a2 : S36) (r : (List Nat)) (h : g32 k a0 a1 a2 = some r) : PureOk Try.prog 32 [.str a0, .vec (a1).length 3 ((a1).flatMap e47), .agg [.int .i64 a2.f0, .int .i64 a2.f1, .bool a2.f2, .bool a2.f3]] (.str r) := by
 refine pure_of X32 (fun _ => rfl) Try.func32 (by decide +kernel) (by kernel_rfl) (t := g32 k a0 a1 a2) ?_ h
 unfold g32
 refine oE (eE := [(0, .str a0), (1, .vec (a1).length 3 ((a1).flatMap e47)), (2, .agg [.int .i64 a2.f0, .int .i64 a2.f1, .bool a2.f2, .bool a2.f3])]) (by kernel_rfl) ?_
 let E1 : Env := [(12, .bool (decide (a2.f0 < 0))), (11, .bool (decide (a2.f0 < 0))), (10, .int .i64 a2.f0), (9, .ptr 0 4 0), (6, .str []), (5, .ptr 0 4 0), (0, .str a0), (1, .vec (a1).length 3 ((a1).flatMap e47)), (2, .agg [.int .i64 a2.f0, .int .i64 a2.f1, .bool a2.f2, .bool a2.f3])]
 refine oR 12 (p' := (atN 4 (ctl1 g32p1))) (eE := E1) (H' := (mkH [⟨[.int .i64 a2.f0, .int .i64 a2.f1, .bool a2.f2, .bool a2.f3], 0, false⟩])) (by kernel_rfl) ?_
 refine oJ (f := fun (z2 : Bool) => if z2 then (some ([] : List Nat)) else ((nthL a1 a2.f0).bind fun x0_3 => (nthL a1 (fW .i64 (a2.f1 - 1))).bind fun x0_10 => (g38 k (⟨x0_10.f0, x0_10.f1, x0_10.f2⟩ : S46)).bind fun x0_12 => jn (fun (z3 : Bool) => if z3 then (some ([] : List Nat)) else ((subL a0 (some x0_3.f2) (some x0_12)).bind fun x1_3 => some x1_3)) (fun j3 => if (decide (x0_3.f2 < 0)) then (j3 true) else (if (decide ((a0.length : Int) < x0_12)) then (j3 true) else (j3 (decide (x0_12 < x0_3.f2))))))) g32p2 (fun (z2 : Bool) => [(0, .str a0), (1, .vec (a1).length 3 ((a1).flatMap e47)), (5, .ptr 0 4 0), (25, .bool z2)]) (fun (z2 : Bool) => (mkH [⟨[.int .i64 a2.f0, .int .i64 a2.f1, .bool a2.f2, .bool a2.f3], 0, false⟩])) (fun z2 => ?_) (fun j2 hj2 => ?_)
 ·refine oS 25 (b := z2) (by kernel_rfl) (fun hb => ?_) (fun hb => ?_)
  ·let E2 : Env := [(6, .str []), (25, .bool true), (0, .str a0), (1, .vec (a1).length 3 ((a1).flatMap e47)), (5, .ptr 0 4 0), (25, .bool z2)]
   refine oR 6 (p' := .fin) (eE := E2) (H' := (mkH [⟨[.int .i64 a2.f0, .int .i64 a2.f1, .bool a2.f2, .bool a2.f3], 0, false⟩])) (by kernel_rfl) ?_
   exact oT (r := ([] : List Nat)) (xs := [.str []]) (v := .str []) (by kernel_rfl) (by kernel_rfl) (by kernel_rfl) (.pures (by kernel_rfl)) (by kernel_rfl)
  ·let E3 : Env := [(25, .bool false), (0, .str a0), (1, .vec (a1).length 3 ((a1).flatMap e47)), (5, .ptr 0 4 0), (25, .bool z2)]
   refine oR 3 (p' := g32p4) (eE := E3) (H' := (mkH [⟨[.int .i64 a2.f0, .int .i64 a2.f1, .bool a2.f2, .bool a2.f3], 0, false⟩])) (by kernel_rfl) ?_
   refine ok_bind (fun x0_3 hx0_3 => ?_)
   refine ok_bind (fun x0_10 hx0_10 => ?_)
   refine ok_bind (fun x0_12 hx0_12 => ?_)
   let E4 : Env := [(28, .int .i64 a2.f0), (27, .ptr 0 4 0), (26, .vec (a1).length 3 ((a1).flatMap e47)), (25, .bool false), (0, .str a0), (1, .vec (a1).length 3 ((a1).flatMap e47)), (5, .ptr 0 4 0), (25, .bool z2)]
   let E5 : Env := ((35, .int .i64 (fW .i64 (a2.f1 - 1))) :: (34, .int .i64 a2.f1) :: (33, .ptr 0 4 1) :: (32, .vec (a1).length 3 ((a1).flatMap e47)) :: (31, .int .i64 x0_3.f2) :: (30, .vptr [.int .i64 x0_3.f2]) :: (29, .vptr [.int .i64 x0_3.f0, .str x0_3.f1, .int .i64 x0_3.f2]) :: E4)
   let E6 : Env := ((8, .int .i64 x0_12) :: (7, .int .i64 x0_3.f2) :: (38, .int .i64 x0_12) :: (37, .agg [.int .i64 x0_10.f0, .str x0_10.f1, .int .i64 x0_10.f2]) :: (36, .vptr [.int .i64 x0_10.f0, .str x0_10.f1, .int .i64 x0_10.f2]) :: E5)
   refine ok_draw (p' := nav [0] g32p4) (eE := E6) (H' := (mkH [⟨[.int .i64 a2.f0, .int .i64 a2.f1, .bool a2.f2, .bool a2.f3], 0, false⟩])) (hs := [(mkH [⟨[.int .i64 a2.f0, .int .i64 a2.f1, .bool a2.f2, .bool a2.f3], 0, false⟩])]) [(0, 0, 0), (0, 0, 0), (2, 0, 1), (7, 0, 0), (15, 0, 0), (31, 0, 1), (0, 0, 0), (0, 0, 0), (128, 0, 0), (384, 0, 0), (960, 0, 0), (1984, 0, 0), (4032, 0, 0), (8191, 0, 0), (16383, 0, 0)] (by kernel_rfl) (by kernel_rfl) (by kernel_rfl) (opsD_run 3 (l' := (opsAt g32p4).toList.drop 3) (eE := E4) (H' := (mkH [⟨[.int .i64 a2.f0, .int .i64 a2.f1, .bool a2.f2, .bool a2.f3], 0, false⟩])) (hs := []) (by kernel_rfl) (opsD_chk (l' := (opsAt g32p4).toList.drop 4) (eE := ((29, .vptr [.int .i64 x0_3.f0, .str x0_3.f1, .int .i64 x0_3.f2]) :: E4)) (hs := []) (x := x0_3) (fun (x0_3 : S46) => (.vptr [.int .i64 x0_3.f0, .str x0_3.f1, .int .i64 x0_3.f2], (mkH [⟨[.int .i64 a2.f0, .int .i64 a2.f1, .bool a2.f2, .bool a2.f3], 0, false⟩]))) (vidxH (sz := 3) e47_len (by kernel_rfl)) hx0_3 (by kernel_rfl) (opsD_run 6 (l' := (opsAt g32p4).toList.drop 10) (eE := E5) (H' := (mkH [⟨[.int .i64 a2.f0, .int .i64 a2.f1, .bool a2.f2, .bool a2.f3], 0, false⟩])) (hs := []) (by kernel_rfl) (opsD_chk (l' := (opsAt g32p4).toList.drop 11) (eE := ((36, .vptr [.int .i64 x0_10.f0, .str x0_10.f1, .int .i64 x0_10.f2]) :: E5)) (hs := []) (x := x0_10) (fun (x0_10 : S46) => (.vptr [.int .i64 x0_10.f0, .str x0_10.f1, .int .i64 x0_10.f2], (mkH [⟨[.int .i64 a2.f0, .int .i64 a2.f1, .bool a2.f2, .bool a2.f3], 0, false⟩]))) (vidxH (sz := 3) e47_len (by kernel_rfl)) hx0_10 (by kernel_rfl) (opsD_run 1 (l' := (opsAt g32p4).toList.drop 12) (eE := ((37, .agg [.int .i64 x0_10.f0, .str x0_10.f1, .int .i64 x0_10.f2]) :: (36, .vptr [.int .i64 x0_10.f0, .str x0_10.f1, .int .i64 x0_10.f2]) :: E5)) (H' := (mkH [⟨[.int .i64 a2.f0, .int .i64 a2.f1, .bool a2.f2, .bool a2.f3], 0, false⟩])) (hs := []) (by kernel_rfl) (opsD_call (l' := (opsAt g32p4).toList.drop 13) (eE := ((38, .int .i64 x0_12) :: (37, .agg [.int .i64 x0_10.f0, .str x0_10.f1, .int .i64 x0_10.f2]) :: (36, .vptr [.int .i64 x0_10.f0, .str x0_10.f1, .int .i64 x0_10.f2]) :: E5)) (hs := [(mkH [⟨[.int .i64 a2.f0, .int .i64 a2.f1, .bool a2.f2, .bool a2.f3], 0, false⟩])]) (fi := 38) (args := [.agg [.int .i64 x0_10.f0, .str x0_10.f1, .int .i64 x0_10.f2]]) (v := .int .i64 x0_12) (by kernel_rfl) (by kernel_rfl) (by kernel_rfl) (g38_ok k (⟨x0_10.f0, x0_10.f1, x0_10.f2⟩ : S46) x0_12 hx0_12) (by kernel_rfl) (opsD_run 2 (l' := (opsAt g32p4).toList.drop 15) (eE := E6) (H' := (mkH [⟨[.int .i64 a2.f0, .int .i64 a2.f1, .bool a2.f2, .bool a2.f3], 0, false⟩])) (hs := []) (by kernel_rfl) (.nil)))))))) (by kernel_rfl) (by kernel_rfl) (by kernel_rfl) ?_
   refine oR 6 (p' := (atN 3 (ctl1 g32p6))) (eE := ((41, .bool (decide (x0_3.f2 < 0))) :: (40, .bool (decide (x0_3.f2 < 0))) :: (39, .int .i64 x0_3.f2) :: E6)) (H' := (mkH [⟨[.int .i64 a2.f0, .int .i64 a2.f1, .bool a2.f2, .bool a2.f3], 0, false⟩])) (by kernel_rfl) ?_
   refine oJ (f := fun (z3 : Bool) => if z3 then (some ([] : List Nat)) else ((subL a0 (some x0_3.f2) (some x0_12)).bind fun x1_3 => some x1_3)) g32p7 (fun (z3 : Bool) => [(0, .str a0), (7, .int .i64 x0_3.f2), (8, .int .i64 x0_12), (51, .bool z3)]) (fun (z3 : Bool) => (mkH [])) (fun z3 => ?_) (fun j3 hj3 => ?_)
   ·refine oS 51 (b := z3) (by kernel_rfl) (fun hb => ?_) (fun hb => ?_)
    ·let E7 : Env := [(6, .str []), (51, .bool true), (0, .str a0), (7, .int .i64 x0_3.f2), (8, .int .i64 x0_12), (51, .bool z3)]
     refine oR 6 (p' := .fin) (eE := E7) (H' := (mkH [])) (by kernel_rfl) ?_
     exact oT (r := ([] : List Nat)) (xs := [.str []]) (v := .str []) (by kernel_rfl) (by kernel_rfl) (by kernel_rfl) (.pures (by kernel_rfl)) (by kernel_rfl)
    ·let E8 : Env := [(54, .int .i64 x0_12), (53, .int .i64 x0_3.f2), (52, .str a0), (51, .bool false), (0, .str a0), (7, .int .i64 x0_3.f2), (8, .int .i64 x0_12), (51, .bool z3)]
     refine oR 7 (p' := (atN 3 (ctl1 g32p9))) (eE := E8) (H' := (mkH [])) (by kernel_rfl) ?_
     refine oH (fun (x1_3 : (List Nat)) => (.str x1_3, (mkH []))) (atN 4 (ctl1 g32p9)) (fun x1_3 => ((55, .str x1_3) :: E8)) (subH (some x0_3.f2) (some x0_12) (by kernel_rfl)) (fun _ => by kernel_rfl) (fun x1_3 hx1_3 => ?_)
     refine oR 3 (p' := .fin) (eE := ((6, .str x1_3) :: (55, .str x1_3) :: E8)) (H' := (mkH [])) (by kernel_rfl) ?_
     exact oT (r := x1_3) (xs := [.str x1_3]) (v := .str x1_3) (by kernel_rfl) (by kernel_rfl) (by kernel_rfl) (.pures (by kernel_rfl)) (by kernel_rfl)
   ·refine oS 41 (b := decide (x0_3.f2 < 0)) (by kernel_rfl) (fun hb => ?_) (fun hb => ?_)
    ·let E9 : Env := ((51, .bool true) :: (50, .tuple []) :: (49, .tuple []) :: (48, .tuple []) :: (47, .bool true) :: (46, .bool true) :: (45, .tuple []) :: (44, .tuple []) :: (43, .tuple []) :: (42, .tuple []) :: (41, .bool true) :: (41, .bool (decide (x0_3.f2 < 0))) :: (40, .bool (decide (x0_3.f2 < 0))) :: (39, .int .i64 x0_3.f2) :: E6)
     refine oR 11 (p' := g32p7) (eE := E9) (H' := (mkH [⟨[.int .i64 a2.f0, .int .i64 a2.f1, .bool a2.f2, .bool a2.f3], 0, false⟩])) (by kernel_rfl) ?_
     refine oK [0, 7, 8, 51] (eE := [(0, .str a0), (7, .int .i64 x0_3.f2), (8, .int .i64 x0_12), (51, .bool true)]) (by kernel_rfl) ?_
     refine ok_cut [] [⟨[.int .i64 a2.f0, .int .i64 a2.f1, .bool a2.f2, .bool a2.f3], 0, false⟩] (by kernel_rfl) rfl (by kernel_rfl) trivial ?_
     exact hj3 true
    ·let E10 : Env := ((47, .bool (decide ((a0.length : Int) < x0_12))) :: (46, .bool (decide ((a0.length : Int) < x0_12))) :: (45, .bool (decide ((a0.length : Int) < x0_12))) :: (44, .int .i64 (a0.length : Int)) :: (43, .str a0) :: (42, .int .i64 x0_12) :: (41, .bool false) :: (41, .bool (decide (x0_3.f2 < 0))) :: (40, .bool (decide (x0_3.f2 < 0))) :: (39, .int .i64 x0_3.f2) :: E6)
     refine oR 6 (p' := (atN 9 (ctl1 g32p6))) (eE := E10) (H' := (mkH [⟨[.int .i64 a2.f0, .int .i64 a2.f1, .bool a2.f2, .bool a2.f3], 0, false⟩])) (by kernel_rfl) ?_
     refine oS 47 (b := decide ((a0.length : Int) < x0_12)) (by kernel_rfl) (fun hb => ?_) (fun hb => ?_)
     ·let E11 : Env := ((51, .bool true) :: (50, .tuple []) :: (49, .tuple []) :: (48, .tuple []) :: (47, .bool true) :: E10)
      refine oR 5 (p' := g32p7) (eE := E11) (H' := (mkH [⟨[.int .i64 a2.f0, .int .i64 a2.f1, .bool a2.f2, .bool a2.f3], 0, false⟩])) (by kernel_rfl) ?_
      refine oK [0, 7, 8, 51] (eE := [(0, .str a0), (7, .int .i64 x0_3.f2), (8, .int .i64 x0_12), (51, .bool true)]) (by kernel_rfl) ?_
      refine ok_cut [] [⟨[.int .i64 a2.f0, .int .i64 a2.f1, .bool a2.f2, .bool a2.f3], 0, false⟩] (by kernel_rfl) rfl (by kernel_rfl) trivial ?_
      exact hj3 true
     ·let E12 : Env := ((51, .bool (decide (x0_12 < x0_3.f2))) :: (50, .bool (decide (x0_12 < x0_3.f2))) :: (49, .int .i64 x0_12) :: (48, .int .i64 x0_3.f2) :: (47, .bool false) :: E10)
      refine oR 5 (p' := g32p7) (eE := E12) (H' := (mkH [⟨[.int .i64 a2.f0, .int .i64 a2.f1, .bool a2.f2, .bool a2.f3], 0, false⟩])) (by kernel_rfl) ?_
      refine oK [0, 7, 8, 51] (eE := [(0, .str a0), (7, .int .i64 x0_3.f2), (8, .int .i64 x0_12), (51, .bool (decide (x0_12 < x0_3.f2)))]) (by kernel_rfl) ?_
      refine ok_cut [] [⟨[.int .i64 a2.f0, .int .i64 a2.f1, .bool a2.f2, .bool a2.f3], 0, false⟩] (by kernel_rfl) rfl (by kernel_rfl) trivial ?_
      exact hj3 (decide (x0_12 < x0_3.f2))
 ·refine oS 12 (b := decide (a2.f0 < 0)) (by kernel_rfl) (fun hb => ?_) (fun hb => ?_)
  ·let E13 : Env := ((25, .bool true) :: (24, .tuple []) :: (23, .tuple []) :: (22, .tuple []) :: (21, .tuple []) :: (20, .tuple []) :: (19, .bool true) :: (18, .bool true) :: (17, .tuple []) :: (16, .tuple []) :: (15, .tuple []) :: (14, .tuple []) :: (13, .tuple []) :: (12, .bool true) :: E1)
   refine oR 14 (p' := g32p2) (eE := E13) (H' := (mkH [⟨[.int .i64 a2.f0, .int .i64 a2.f1, .bool a2.f2, .bool a2.f3], 0, false⟩])) (by kernel_rfl) ?_
   refine oK [0, 1, 5, 25] (eE := [(0, .str a0), (1, .vec (a1).length 3 ((a1).flatMap e47)), (5, .ptr 0 4 0), (25, .bool true)]) (by kernel_rfl) ?_
   exact hj2 true
  ·let E14 : Env := ((19, .bool (decide ((a1.length : Int) < a2.f1))) :: (18, .bool (decide ((a1.length : Int) < a2.f1))) :: (17, .bool (decide ((a1.length : Int) < a2.f1))) :: (16, .int .i64 (a1.length : Int)) :: (15, .vec (a1).length 3 ((a1).flatMap e47)) :: (14, .int .i64 a2.f1) :: (13, .ptr 0 4 1) :: (12, .bool false) :: E1)
   refine oR 7 (p' := (atN 11 (ctl1 g32p1))) (eE := E14) (H' := (mkH [⟨[.int .i64 a2.f0, .int .i64 a2.f1, .bool a2.f2, .bool a2.f3], 0, false⟩])) (by kernel_rfl) ?_
   refine oS 19 (b := decide ((a1.length : Int) < a2.f1)) (by kernel_rfl) (fun hb => ?_) (fun hb => ?_)
   ·let E15 : Env := ((25, .bool true) :: (24, .tuple []) :: (23, .tuple []) :: (22, .tuple []) :: (21, .tuple []) :: (20, .tuple []) :: (19, .bool true) :: E14)
    refine oR 7 (p' := g32p2) (eE := E15) (H' := (mkH [⟨[.int .i64 a2.f0, .int .i64 a2.f1, .bool a2.f2, .bool a2.f3], 0, false⟩])) (by kernel_rfl) ?_
    refine oK [0, 1, 5, 25] (eE := [(0, .str a0), (1, .vec (a1).length 3 ((a1).flatMap e47)), (5, .ptr 0 4 0), (25, .bool true)]) (by kernel_rfl) ?_
    exact hj2 true
   ·let E16 : Env := ((25, .bool (decide (a2.f1 ≤ a2.f0))) :: (24, .bool (decide (a2.f1 ≤ a2.f0))) :: (23, .int .i64 a2.f1) :: (22, .ptr 0 4 1) :: (21, .int .i64 a2.f0) :: (20, .ptr 0 4 0) :: (19, .bool false) :: E14)
    refine oR 7 (p' := g32p2) (eE := E16) (H' := (mkH [⟨[.int .i64 a2.f0, .int .i64 a2.f1, .bool a2.f2, .bool a2.f3], 0, false⟩])) (by kernel_rfl) ?_
    refine oK [0, 1, 5, 25] (eE := [(0, .str a0), (1, .vec (a1).length 3 ((a1).flatMap e47)), (5, .ptr 0 4 0), (25, .bool (decide (a2.f1 ≤ a2.f0)))]) (by kernel_rfl) ?_
    exact hj2 (decide (a2.f1 ≤ a2.f0))
end
end Go.Proofs.Ytbmijiibfaacmaa.Am
set_option maxRecDepth 100000
set_option linter.unusedVariables false
namespace Go.Proofs.Ytbmijiibfaacmaa.Am
noncomputable section
open Go
def X27 : Fx Bool := ⟨Try.prog, cx, Try.f27, fun r => .bool r, 0, fun _ => H0, cxTi, cxOrd⟩
def g27c0 : List Nat := [37, 97, 10, 102, 40, 41, 32, 45, 62, 32, 111, 107, 46, 32, 37, 98]
def g27c1 : List Nat := [102, 40, 41, 32, 45, 62, 32, 111, 107, 46]
def g27p0 : Pt := nav [0] (bodyAt Try.f27)
def g27p1 : Pt := nav [0, 0, 0] g27p0
def g27p2 : Pt := nav [0, 0, 0] g27p1
def g27p3 : Pt := nav [0, 0, 0] g27p2
def g27p4 : Pt := nav [0, 0, 0] g27p3
def g27 (k : Nat)  : Option Bool :=
 (g28 k g27c0).bind fun x0_1 => (g29 k g27c0 x0_1.1).bind fun x1_2 => if (decide (x0_1.2 = 0)) then (if (decide ((x1_2.length : Int) = 3)) then ((nthL x1_2 0).bind fun x2_9 => if x2_9.f2 then ((nthL x1_2 1).bind fun x2_15 => if (!x2_15.f2) then ((nthL x1_2 2).bind fun x2_22 => if x2_22.f2 then ((nthL x1_2 1).bind fun x2_30 => (g32 k g27c0 x0_1.1 (⟨x2_30.f0, x2_30.f1, x2_30.f2, x2_30.f3⟩ : S36)).bind fun x2_32 => if (eqL x2_32 g27c1) then ((g32 k g27c0 x0_1.1 (⟨(0 : Int), (0 : Int), false, false⟩ : S36)).bind fun x2_39 => some (eqL x2_39 [])) else (some false)) else (some false)) else (some false)) else (some false)) else (some false)) else (some false)
theorem g27_ok (k : Nat)  (r : Bool) (h : g27 k  = some r) : PureOk Try.prog 27 [] (.bool r) := by
 refine pure_of X27 (fun _ => rfl) Try.func27 (by decide +kernel) (by kernel_rfl) (t := g27 k ) ?_ h
 unfold g27
 refine oE (eE := []) (by kernel_rfl) ?_
 refine oR 11 (p' := (atN 1 (ctl1 g27p2))) (eE := [(6, .str g27c0), (1, .str g27c0), (0, .bool false)]) (H' := (mkH [])) (by kernel_rfl) ?_
 refine oC (fun (x0_1 : ((List S46) × Int)) => .tuple [.vec (x0_1.1).length 3 ((x0_1.1).flatMap e47), .int .i64 x0_1.2]) (atN 2 (ctl1 g27p2)) (fun x0_1 => [(7, .tuple [.vec (x0_1.1).length 3 ((x0_1.1).flatMap e47), .int .i64 x0_1.2]), (6, .str g27c0), (1, .str g27c0), (0, .bool false)]) (fi := 28) (args := [.str g27c0]) (by kernel_rfl) (by kernel_rfl) (fun _ => by kernel_rfl) (fun r h => g28_ok k g27c0 r h) (fun _ => by kernel_rfl) (fun x0_1 hx0_1 => ?_)
 let E1 : Env := [(11, .vec (x0_1.1).length 3 ((x0_1.1).flatMap e47)), (10, .str g27c0), (3, .int .i64 x0_1.2), (2, .vec (x0_1.1).length 3 ((x0_1.1).flatMap e47)), (9, .int .i64 x0_1.2), (8, .vec (x0_1.1).length 3 ((x0_1.1).flatMap e47)), (5, .tuple [.vec (x0_1.1).length 3 ((x0_1.1).flatMap e47), .int .i64 x0_1.2]), (7, .tuple [.vec (x0_1.1).length 3 ((x0_1.1).flatMap e47), .int .i64 x0_1.2]), (6, .str g27c0), (1, .str g27c0), (0, .bool false)]
 refine oR 10 (p' := (atN 2 (ctl1 g27p3))) (eE := E1) (H' := (mkH [])) (by kernel_rfl) ?_
 refine oC (fun (x1_2 : (List S36)) => .vec (x1_2).length 4 ((x1_2).flatMap e37)) (atN 3 (ctl1 g27p3)) (fun x1_2 => ((12, .vec (x1_2).length 4 ((x1_2).flatMap e37)) :: E1)) (fi := 29) (args := [.str g27c0, .vec (x0_1.1).length 3 ((x0_1.1).flatMap e47)]) (by kernel_rfl) (by kernel_rfl) (fun _ => by kernel_rfl) (fun r h => g29_ok k g27c0 x0_1.1 r h) (fun _ => by kernel_rfl) (fun x1_2 hx1_2 => ?_)
 refine oR 3 (p' := g27p4) (eE := ((4, .vec (x1_2).length 4 ((x1_2).flatMap e37)) :: (12, .vec (x1_2).length 4 ((x1_2).flatMap e37)) :: E1)) (H' := (mkH [])) (by kernel_rfl) ?_
 refine oK [1, 2, 3, 4] (eE := [(1, .str g27c0), (2, .vec (x0_1.1).length 3 ((x0_1.1).flatMap e47)), (3, .int .i64 x0_1.2), (4, .vec (x1_2).length 4 ((x1_2).flatMap e37))]) (by kernel_rfl) ?_
 let E2 : Env := [(15, .bool (decide (x0_1.2 = 0))), (14, .bool (decide (x0_1.2 = 0))), (13, .int .i64 x0_1.2), (1, .str g27c0), (2, .vec (x0_1.1).length 3 ((x0_1.1).flatMap e47)), (3, .int .i64 x0_1.2), (4, .vec (x1_2).length 4 ((x1_2).flatMap e37))]
 refine oR 4 (p' := (atN 3 (ctl1 g27p4))) (eE := E2) (H' := (mkH [])) (by kernel_rfl) ?_
 refine oS 15 (b := decide (x0_1.2 = 0)) (by kernel_rfl) (fun hb => ?_) (fun hb => ?_)
 ·let E3 : Env := ((20, .bool (decide ((x1_2.length : Int) = 3))) :: (19, .bool (decide ((x1_2.length : Int) = 3))) :: (18, .bool (decide ((x1_2.length : Int) = 3))) :: (17, .int .i64 (x1_2.length : Int)) :: (16, .vec (x1_2).length 4 ((x1_2).flatMap e37)) :: (15, .bool true) :: E2)
  refine oR 5 (p' := (atN 8 (ctl1 g27p4))) (eE := E3) (H' := (mkH [])) (by kernel_rfl) ?_
  refine oS 20 (b := decide ((x1_2.length : Int) = 3)) (by kernel_rfl) (fun hb => ?_) (fun hb => ?_)
  ·refine oR 1 (p' := (atN 9 (ctl1 g27p4))) (eE := ((21, .vec (x1_2).length 4 ((x1_2).flatMap e37)) :: (20, .bool true) :: E3)) (H' := (mkH [])) (by kernel_rfl) ?_
   refine oH (fun (x2_9 : S36) => (.vptr [.int .i64 x2_9.f0, .int .i64 x2_9.f1, .bool x2_9.f2, .bool x2_9.f3], (mkH []))) (atN 10 (ctl1 g27p4)) (fun x2_9 => ((22, .vptr [.int .i64 x2_9.f0, .int .i64 x2_9.f1, .bool x2_9.f2, .bool x2_9.f3]) :: (21, .vec (x1_2).length 4 ((x1_2).flatMap e37)) :: (20, .bool true) :: E3)) (vidxH (sz := 4) e37_len (by kernel_rfl)) (fun _ => by kernel_rfl) (fun x2_9 hx2_9 => ?_)
   let E4 : Env := ((26, .bool x2_9.f2) :: (25, .bool x2_9.f2) :: (24, .bool x2_9.f2) :: (23, .vptr [.bool x2_9.f2, .bool x2_9.f3]) :: (22, .vptr [.int .i64 x2_9.f0, .int .i64 x2_9.f1, .bool x2_9.f2, .bool x2_9.f3]) :: (21, .vec (x1_2).length 4 ((x1_2).flatMap e37)) :: (20, .bool true) :: E3)
   refine oR 4 (p' := (atN 14 (ctl1 g27p4))) (eE := E4) (H' := (mkH [])) (by kernel_rfl) ?_
   refine oS 26 (b := x2_9.f2) (by kernel_rfl) (fun hb => ?_) (fun hb => ?_)
   ·refine oR 1 (p' := (atN 15 (ctl1 g27p4))) (eE := ((27, .vec (x1_2).length 4 ((x1_2).flatMap e37)) :: (26, .bool true) :: E4)) (H' := (mkH [])) (by kernel_rfl) ?_
    refine oH (fun (x2_15 : S36) => (.vptr [.int .i64 x2_15.f0, .int .i64 x2_15.f1, .bool x2_15.f2, .bool x2_15.f3], (mkH []))) (atN 16 (ctl1 g27p4)) (fun x2_15 => ((28, .vptr [.int .i64 x2_15.f0, .int .i64 x2_15.f1, .bool x2_15.f2, .bool x2_15.f3]) :: (27, .vec (x1_2).length 4 ((x1_2).flatMap e37)) :: (26, .bool true) :: E4)) (vidxH (sz := 4) e37_len (by kernel_rfl)) (fun _ => by kernel_rfl) (fun x2_15 hx2_15 => ?_)
    let E5 : Env := ((33, .bool (!x2_15.f2)) :: (32, .bool (!x2_15.f2)) :: (31, .bool (!x2_15.f2)) :: (30, .bool x2_15.f2) :: (29, .vptr [.bool x2_15.f2, .bool x2_15.f3]) :: (28, .vptr [.int .i64 x2_15.f0, .int .i64 x2_15.f1, .bool x2_15.f2, .bool x2_15.f3]) :: (27, .vec (x1_2).length 4 ((x1_2).flatMap e37)) :: (26, .bool true) :: E4)
    refine oR 5 (p' := (atN 21 (ctl1 g27p4))) (eE := E5) (H' := (mkH [])) (by kernel_rfl) ?_
    refine oS 33 (b := !x2_15.f2) (by kernel_rfl) (fun hb => ?_) (fun hb => ?_)
    ·refine oR 1 (p' := (atN 22 (ctl1 g27p4))) (eE := ((34, .vec (x1_2).length 4 ((x1_2).flatMap e37)) :: (33, .bool true) :: E5)) (H' := (mkH [])) (by kernel_rfl) ?_
     refine oH (fun (x2_22 : S36) => (.vptr [.int .i64 x2_22.f0, .int .i64 x2_22.f1, .bool x2_22.f2, .bool x2_22.f3], (mkH []))) (atN 23 (ctl1 g27p4)) (fun x2_22 => ((35, .vptr [.int .i64 x2_22.f0, .int .i64 x2_22.f1, .bool x2_22.f2, .bool x2_22.f3]) :: (34, .vec (x1_2).length 4 ((x1_2).flatMap e37)) :: (33, .bool true) :: E5)) (vidxH (sz := 4) e37_len (by kernel_rfl)) (fun _ => by kernel_rfl) (fun x2_22 hx2_22 => ?_)
     let E6 : Env := ((39, .bool x2_22.f2) :: (38, .bool x2_22.f2) :: (37, .bool x2_22.f2) :: (36, .vptr [.bool x2_22.f2, .bool x2_22.f3]) :: (35, .vptr [.int .i64 x2_22.f0, .int .i64 x2_22.f1, .bool x2_22.f2, .bool x2_22.f3]) :: (34, .vec (x1_2).length 4 ((x1_2).flatMap e37)) :: (33, .bool true) :: E5)
     refine oR 4 (p' := (atN 27 (ctl1 g27p4))) (eE := E6) (H' := (mkH [])) (by kernel_rfl) ?_
     refine oS 39 (b := x2_22.f2) (by kernel_rfl) (fun hb => ?_) (fun hb => ?_)
     ·refine oR 3 (p' := (atN 30 (ctl1 g27p4))) (eE := ((42, .vec (x1_2).length 4 ((x1_2).flatMap e37)) :: (41, .vec (x0_1.1).length 3 ((x0_1.1).flatMap e47)) :: (40, .str g27c0) :: (39, .bool true) :: E6)) (H' := (mkH [])) (by kernel_rfl) ?_
      refine oH (fun (x2_30 : S36) => (.vptr [.int .i64 x2_30.f0, .int .i64 x2_30.f1, .bool x2_30.f2, .bool x2_30.f3], (mkH []))) (atN 31 (ctl1 g27p4)) (fun x2_30 => ((43, .vptr [.int .i64 x2_30.f0, .int .i64 x2_30.f1, .bool x2_30.f2, .bool x2_30.f3]) :: (42, .vec (x1_2).length 4 ((x1_2).flatMap e37)) :: (41, .vec (x0_1.1).length 3 ((x0_1.1).flatMap e47)) :: (40, .str g27c0) :: (39, .bool true) :: E6)) (vidxH (sz := 4) e37_len (by kernel_rfl)) (fun _ => by kernel_rfl) (fun x2_30 hx2_30 => ?_)
      let E7 : Env := ((44, .agg [.int .i64 x2_30.f0, .int .i64 x2_30.f1, .bool x2_30.f2, .bool x2_30.f3]) :: (43, .vptr [.int .i64 x2_30.f0, .int .i64 x2_30.f1, .bool x2_30.f2, .bool x2_30.f3]) :: (42, .vec (x1_2).length 4 ((x1_2).flatMap e37)) :: (41, .vec (x0_1.1).length 3 ((x0_1.1).flatMap e47)) :: (40, .str g27c0) :: (39, .bool true) :: E6)
      refine oR 1 (p' := (atN 32 (ctl1 g27p4))) (eE := E7) (H' := (mkH [])) (by kernel_rfl) ?_
      refine oC (fun (x2_32 : (List Nat)) => .str x2_32) (atN 33 (ctl1 g27p4)) (fun x2_32 => ((45, .str x2_32) :: E7)) (fi := 32) (args := [.str g27c0, .vec (x0_1.1).length 3 ((x0_1.1).flatMap e47), .agg [.int .i64 x2_30.f0, .int .i64 x2_30.f1, .bool x2_30.f2, .bool x2_30.f3]]) (by kernel_rfl) (by kernel_rfl) (fun _ => by kernel_rfl) (fun r h => g32_ok k g27c0 x0_1.1 (⟨x2_30.f0, x2_30.f1, x2_30.f2, x2_30.f3⟩ : S36) r h) (fun _ => by kernel_rfl) (fun x2_32 hx2_32 => ?_)
      refine oR 3 (p' := (atN 36 (ctl1 g27p4))) (eE := ((48, .bool (eqL x2_32 g27c1)) :: (47, .bool (eqL x2_32 g27c1)) :: (46, .bool (eqL x2_32 g27c1)) :: (45, .str x2_32) :: E7)) (H' := (mkH [])) (by kernel_rfl) ?_
      refine oS 48 (b := eqL x2_32 g27c1) (by kernel_rfl) (fun hb => ?_) (fun hb => ?_)
      ·let E8 : Env := ((51, .agg [.int .i64 0, .int .i64 0, .bool false, .bool false]) :: (50, .vec (x0_1.1).length 3 ((x0_1.1).flatMap e47)) :: (49, .str g27c0) :: (48, .bool true) :: (48, .bool (eqL x2_32 g27c1)) :: (47, .bool (eqL x2_32 g27c1)) :: (46, .bool (eqL x2_32 g27c1)) :: (45, .str x2_32) :: E7)
       refine oR 3 (p' := (atN 39 (ctl1 g27p4))) (eE := E8) (H' := (mkH [])) (by kernel_rfl) ?_
       refine oC (fun (x2_39 : (List Nat)) => .str x2_39) (atN 40 (ctl1 g27p4)) (fun x2_39 => ((52, .str x2_39) :: E8)) (fi := 32) (args := [.str g27c0, .vec (x0_1.1).length 3 ((x0_1.1).flatMap e47), .agg [.int .i64 0, .int .i64 0, .bool false, .bool false]]) (by kernel_rfl) (by kernel_rfl) (fun _ => by kernel_rfl) (fun r h => g32_ok k g27c0 x0_1.1 (⟨(0 : Int), (0 : Int), false, false⟩ : S36) r h) (fun _ => by kernel_rfl) (fun x2_39 hx2_39 => ?_)
       refine oR 5 (p' := .fin) (eE := ((0, .bool (eqL x2_39 [])) :: (54, .bool (eqL x2_39 [])) :: (53, .bool (eqL x2_39 [])) :: (52, .str x2_39) :: E8)) (H' := (mkH [])) (by kernel_rfl) ?_
       exact oT (r := (eqL x2_39 [])) (xs := [.bool (eqL x2_39 [])]) (v := .bool (eqL x2_39 [])) (by kernel_rfl) (by kernel_rfl) (by kernel_rfl) (.pures (by kernel_rfl)) (by kernel_rfl)
      ·let E9 : Env := ((0, .bool false) :: (54, .bool false) :: (53, .tuple []) :: (52, .tuple []) :: (51, .tuple []) :: (50, .tuple []) :: (49, .tuple []) :: (48, .bool false) :: (48, .bool (eqL x2_32 g27c1)) :: (47, .bool (eqL x2_32 g27c1)) :: (46, .bool (eqL x2_32 g27c1)) :: (45, .str x2_32) :: E7)
       refine oR 9 (p' := .fin) (eE := E9) (H' := (mkH [])) (by kernel_rfl) ?_
       exact oT (r := false) (xs := [.bool false]) (v := .bool false) (by kernel_rfl) (by kernel_rfl) (by kernel_rfl) (.pures (by kernel_rfl)) (by kernel_rfl)
     ·let E10 : Env := ((0, .bool false) :: (54, .bool false) :: (53, .tuple []) :: (52, .tuple []) :: (51, .tuple []) :: (50, .tuple []) :: (49, .tuple []) :: (48, .bool false) :: (47, .bool false) :: (46, .tuple []) :: (45, .tuple []) :: (44, .tuple []) :: (43, .tuple []) :: (42, .tuple []) :: (41, .tuple []) :: (40, .tuple []) :: (39, .bool false) :: E6)
      refine oR 18 (p' := .fin) (eE := E10) (H' := (mkH [])) (by kernel_rfl) ?_
      exact oT (r := false) (xs := [.bool false]) (v := .bool false) (by kernel_rfl) (by kernel_rfl) (by kernel_rfl) (.pures (by kernel_rfl)) (by kernel_rfl)
    ·let E11 : Env := ((0, .bool false) :: (54, .bool false) :: (53, .tuple []) :: (52, .tuple []) :: (51, .tuple []) :: (50, .tuple []) :: (49, .tuple []) :: (48, .bool false) :: (47, .bool false) :: (46, .tuple []) :: (45, .tuple []) :: (44, .tuple []) :: (43, .tuple []) :: (42, .tuple []) :: (41, .tuple []) :: (40, .tuple []) :: (39, .bool false) :: (38, .bool false) :: (37, .tuple []) :: (36, .tuple []) :: (35, .tuple []) :: (34, .tuple []) :: (33, .bool false) :: E5)
     refine oR 24 (p' := .fin) (eE := E11) (H' := (mkH [])) (by kernel_rfl) ?_
     exact oT (r := false) (xs := [.bool false]) (v := .bool false) (by kernel_rfl) (by kernel_rfl) (by kernel_rfl) (.pures (by kernel_rfl)) (by kernel_rfl)
   ·let E12 : Env := ((0, .bool false) :: (54, .bool false) :: (53, .tuple []) :: (52, .tuple []) :: (51, .tuple []) :: (50, .tuple []) :: (49, .tuple []) :: (48, .bool false) :: (47, .bool false) :: (46, .tuple []) :: (45, .tuple []) :: (44, .tuple []) :: (43, .tuple []) :: (42, .tuple []) :: (41, .tuple []) :: (40, .tuple []) :: (39, .bool false) :: (38, .bool false) :: (37, .tuple []) :: (36, .tuple []) :: (35, .tuple []) :: (34, .tuple []) :: (33, .bool false) :: (32, .bool false) :: (31, .tuple []) :: (30, .tuple []) :: (29, .tuple []) :: (28, .tuple []) :: (27, .tuple []) :: (26, .bool false) :: E4)
    refine oR 31 (p' := .fin) (eE := E12) (H' := (mkH [])) (by kernel_rfl) ?_
    exact oT (r := false) (xs := [.bool false]) (v := .bool false) (by kernel_rfl) (by kernel_rfl) (by kernel_rfl) (.pures (by kernel_rfl)) (by kernel_rfl)
  ·let E13 : Env := ((0, .bool false) :: (54, .bool false) :: (53, .tuple []) :: (52, .tuple []) :: (51, .tuple []) :: (50, .tuple []) :: (49, .tuple []) :: (48, .bool false) :: (47, .bool false) :: (46, .tuple []) :: (45, .tuple []) :: (44, .tuple []) :: (43, .tuple []) :: (42, .tuple []) :: (41, .tuple []) :: (40, .tuple []) :: (39, .bool false) :: (38, .bool false) :: (37, .tuple []) :: (36, .tuple []) :: (35, .tuple []) :: (34, .tuple []) :: (33, .bool false) :: (32, .bool false) :: (31, .tuple []) :: (30, .tuple []) :: (29, .tuple []) :: (28, .tuple []) :: (27, .tuple []) :: (26, .bool false) :: (25, .bool false) :: (24, .tuple []) :: (23, .tuple []) :: (22, .tuple []) :: (21, .tuple []) :: (20, .bool false) :: E3)
   refine oR 37 (p' := .fin) (eE := E13) (H' := (mkH [])) (by kernel_rfl) ?_
   exact oT (r := false) (xs := [.bool false]) (v := .bool false) (by kernel_rfl) (by kernel_rfl) (by kernel_rfl) (.pures (by kernel_rfl)) (by kernel_rfl)
 ·let E14 : Env := ((0, .bool false) :: (54, .bool false) :: (53, .tuple []) :: (52, .tuple []) :: (51, .tuple []) :: (50, .tuple []) :: (49, .tuple []) :: (48, .bool false) :: (47, .bool false) :: (46, .tuple []) :: (45, .tuple []) :: (44, .tuple []) :: (43, .tuple []) :: (42, .tuple []) :: (41, .tuple []) :: (40, .tuple []) :: (39, .bool false) :: (38, .bool false) :: (37, .tuple []) :: (36, .tuple []) :: (35, .tuple []) :: (34, .tuple []) :: (33, .bool false) :: (32, .bool false) :: (31, .tuple []) :: (30, .tuple []) :: (29, .tuple []) :: (28, .tuple []) :: (27, .tuple []) :: (26, .bool false) :: (25, .bool false) :: (24, .tuple []) :: (23, .tuple []) :: (22, .tuple []) :: (21, .tuple []) :: (20, .bool false) :: (19, .bool false) :: (18, .tuple []) :: (17, .tuple []) :: (16, .tuple []) :: (15, .bool false) :: E2)
  refine oR 42 (p' := .fin) (eE := E14) (H' := (mkH [])) (by kernel_rfl) ?_
  exact oT (r := false) (xs := [.bool false]) (v := .bool false) (by kernel_rfl) (by kernel_rfl) (by kernel_rfl) (.pures (by kernel_rfl)) (by kernel_rfl)
end
end Go.Proofs.Ytbmijiibfaacmaa.Am
set_option maxRecDepth 100000
set_option linter.unusedVariables false
namespace Go.Proofs.Ytbmijiibfaacmaa.Am
noncomputable section
open Go
def X7 : Fx Bool := ⟨Try.prog, cx, Try.f7, fun r => .bool r, 0, fun _ => H0, cxTi, cxOrd⟩
def g7p0 : Pt := nav [0] (bodyAt Try.f7)
def g7p1 : Pt := nav [0, 0, 0, 0] g7p0
def g7p2 : Pt := nav [0, 0] g7p1
def g7p3 : Pt := nav [1, 0] g7p2
def g7p4 : Pt := nav [2, 0, 0] g7p2
def g7p6 : Pt := nav [0, 0, 0, 0] g7p4
def g7p7 : Pt := nav [0, 0] g7p6
def g7p8 : Pt := nav [1, 0] g7p7
def g7p9 : Pt := nav [2, 0, 0] g7p7
def g7p10 : Pt := nav [0, 0, 0] g7p9
def g7p11 : Pt := nav [0, 0, 0, 0] g7p10
def g7p12 : Pt := nav [0, 0, 0, 0] g7p11
def g7p13 : Pt := nav [0, 0, 0] g7p12
def g7p14 : Pt := nav [0, 0] g7p13
def g7p15 : Pt := nav [1, 0, 0, 0, 0, 0] g7p14
def g7p16 : Pt := nav [2, 0, 0] g7p14
def g7p17 : Pt := nav [0, 0] g7p15
def g7p19 : Pt := nav [2, 0, 0, 0] g7p17
def g7p20 : Pt := nav [0, 0] g7p19
def g7p22 : Pt := nav [2, 0, 0, 0] g7p20
def g7p23 : Pt := nav [0, 0, 0, 0] g7p22
def g7p24 : Pt := nav [0, 0, 0] g7p23
def g7p25 : Pt := nav [0, 0] g7p24
def g7p26 : Pt := nav [1, 0, 0, 0, 0] g7p25
def g7p27 : Pt := nav [2, 0, 0, 0] g7p25
def g7p28 : Pt := nav [0, 0] g7p26
def g7p29 : Pt := nav [0, 0] g7p27
def g7p33 : Pt := nav [2, 0] g7p29
def g7p34 : Pt := nav [0, 0] g7p33
def g7_l14 (k : Nat) (c11 : Int → Int → Option Bool) (x1_1 : ((List S46) × Int)) (x3_2 : (List S36)) (y11_0 : Int) (y11_1 : Int) (n : Nat) : Int → Int → Option Bool :=
 Nat.rec (motive := fun _ => Int → Int → Option Bool) (fun _ _ => none) (fun _ ih => fun (y14_0 : Int) (y14_1 : Int) => (nthL x3_2 y14_1).bind fun x7_3 => jn (fun (z15 : Int) => (nthL x3_2 z15).bind fun x9_2 => jn (fun (z16 : Bool × Int) => if z16.1 then (some false) else ((nthL x3_2 z16.2).bind fun x10_2 => c11 x10_2.f1 (fW .i64 (z16.2 + 1)))) (fun j16 => if (!x9_2.f2) then ((nthL x3_2 z15).bind fun x9_10 => (nthL x1_1.1 (fW .i64 (x9_10.f1 - 1))).bind fun x9_14 => j16 (decide (x9_14.f0 = 11), z15)) else (j16 (false, z15)))) (fun j15 => if (decide (y14_0 < fW .i64 (x7_3.f1 - 1))) then ((nthL x1_1.1 y14_0).bind fun x8_2 => if (decide (x8_2.f0 = 10)) then (some false) else (ih (fW .i64 (y14_0 + 1)) y14_1)) else (j15 y14_1))) n
theorem g7_l14_s (k : Nat) (c11 : Int → Int → Option Bool) (x1_1 : ((List S46) × Int)) (x3_2 : (List S36)) (y11_0 : Int) (y11_1 : Int) (n : Nat) (y14_0 : Int) (y14_1 : Int) : g7_l14 k c11 x1_1 x3_2 y11_0 y11_1 (n + 1) y14_0 y14_1 = ((nthL x3_2 y14_1).bind fun x7_3 => jn (fun (z15 : Int) => (nthL x3_2 z15).bind fun x9_2 => jn (fun (z16 : Bool × Int) => if z16.1 then (some false) else ((nthL x3_2 z16.2).bind fun x10_2 => c11 x10_2.f1 (fW .i64 (z16.2 + 1)))) (fun j16 => if (!x9_2.f2) then ((nthL x3_2 z15).bind fun x9_10 => (nthL x1_1.1 (fW .i64 (x9_10.f1 - 1))).bind fun x9_14 => j16 (decide (x9_14.f0 = 11), z15)) else (j16 (false, z15)))) (fun j15 => if (decide (y14_0 < fW .i64 (x7_3.f1 - 1))) then ((nthL x1_1.1 y14_0).bind fun x8_2 => if (decide (x8_2.f0 = 10)) then (some false) else ((g7_l14 k c11 x1_1 x3_2 y11_0 y11_1 n) (fW .i64 (y14_0 + 1)) y14_1)) else (j15 y14_1))) := rfl
theorem g7_l14_ok (k : Nat) (c11 : Int → Int → Option Bool) (x1_1 : ((List S46) × Int)) (x3_2 : (List S36)) (y11_0 : Int) (y11_1 : Int) (hc11 : ∀ (y11_0 : Int) (y11_1 : Int), Ok X7 g7p12 [(3, .vec (x1_1.1).length 3 ((x1_1.1).flatMap e47)), (5, .int .i64 y11_0), (6, .vec (x3_2).length 4 ((x3_2).flatMap e37)), (7, .int .i64 y11_1)] (mkH []) (c11 y11_0 y11_1)) : ∀ (n : Nat) (y14_0 : Int) (y14_1 : Int), Ok X7 g7p23 [(3, .vec (x1_1.1).length 3 ((x1_1.1).flatMap e47)), (6, .vec (x3_2).length 4 ((x3_2).flatMap e37)), (7, .int .i64 y14_1), (8, .int .i64 y14_0)] (mkH []) (g7_l14 k c11 x1_1 x3_2 y11_0 y11_1 n y14_0 y14_1)
 | 0, _, _ => ok_none
 | n + 1, y14_0, y14_1 => by
  have ih := g7_l14_ok k c11 x1_1 x3_2 y11_0 y11_1 hc11 n
  rw [g7_l14_s]
  refine ok_ent (p' := nav [0] g7p23) (by kernel_rfl) ?_
  let E11 : Env := [(98, .int .i64 y14_1), (97, .vec (x3_2).length 4 ((x3_2).flatMap e37)), (96, .int .i64 y14_0), (3, .vec (x1_1.1).length 3 ((x1_1.1).flatMap e47)), (6, .vec (x3_2).length 4 ((x3_2).flatMap e37)), (7, .int .i64 y14_1), (8, .int .i64 y14_0)]
  refine oR 6 (p' := (atN 3 (ctl1 g7p24))) (eE := E11) (H' := (mkH [])) (by kernel_rfl) ?_
  refine oH (fun (x7_3 : S36) => (.vptr [.int .i64 x7_3.f0, .int .i64 x7_3.f1, .bool x7_3.f2, .bool x7_3.f3], (mkH []))) (atN 4 (ctl1 g7p24)) (fun x7_3 => ((99, .vptr [.int .i64 x7_3.f0, .int .i64 x7_3.f1, .bool x7_3.f2, .bool x7_3.f3]) :: E11)) (vidxH (sz := 4) e37_len (by kernel_rfl)) (fun _ => by kernel_rfl) (fun x7_3 hx7_3 => ?_)
  let E12 : Env := ((103, .bool (decide (y14_0 < fW .i64 (x7_3.f1 - 1)))) :: (102, .int .i64 (fW .i64 (x7_3.f1 - 1))) :: (101, .int .i64 x7_3.f1) :: (100, .vptr [.int .i64 x7_3.f1, .bool x7_3.f2, .bool x7_3.f3]) :: (99, .vptr [.int .i64 x7_3.f0, .int .i64 x7_3.f1, .bool x7_3.f2, .bool x7_3.f3]) :: E11)
  refine oR 5 (p' := g7p25) (eE := E12) (H' := (mkH [])) (by kernel_rfl) ?_
  refine oK [3, 6, 7, 8, 103] (eE := [(3, .vec (x1_1.1).length 3 ((x1_1.1).flatMap e47)), (6, .vec (x3_2).length 4 ((x3_2).flatMap e37)), (7, .int .i64 y14_1), (8, .int .i64 y14_0), (103, .bool (decide (y14_0 < fW .i64 (x7_3.f1 - 1))))]) (by kernel_rfl) ?_
  refine oJ (f := fun (z15 : Int) => (nthL x3_2 z15).bind fun x9_2 => jn (fun (z16 : Bool × Int) => if z16.1 then (some false) else ((nthL x3_2 z16.2).bind fun x10_2 => c11 x10_2.f1 (fW .i64 (z16.2 + 1)))) (fun j16 => if (!x9_2.f2) then ((nthL x3_2 z15).bind fun x9_10 => (nthL x1_1.1 (fW .i64 (x9_10.f1 - 1))).bind fun x9_14 => j16 (decide (x9_14.f0 = 11), z15)) else (j16 (false, z15)))) g7p27 (fun (z15 : Int) => [(3, .vec (x1_1.1).length 3 ((x1_1.1).flatMap e47)), (6, .vec (x3_2).length 4 ((x3_2).flatMap e37)), (7, .int .i64 z15)]) (fun (z15 : Int) => (mkH [])) (fun z15 => ?_) (fun j15 hj15 => ?_)
  ·let E13 : Env := [(113, .int .i64 z15), (112, .vec (x3_2).length 4 ((x3_2).flatMap e37)), (3, .vec (x1_1.1).length 3 ((x1_1.1).flatMap e47)), (6, .vec (x3_2).length 4 ((x3_2).flatMap e37)), (7, .int .i64 z15)]
   refine oR 3 (p' := (atN 2 (ctl1 g7p27))) (eE := E13) (H' := (mkH [])) (by kernel_rfl) ?_
   refine oH (fun (x9_2 : S36) => (.vptr [.int .i64 x9_2.f0, .int .i64 x9_2.f1, .bool x9_2.f2, .bool x9_2.f3], (mkH []))) (atN 3 (ctl1 g7p27)) (fun x9_2 => ((114, .vptr [.int .i64 x9_2.f0, .int .i64 x9_2.f1, .bool x9_2.f2, .bool x9_2.f3]) :: E13)) (vidxH (sz := 4) e37_len (by kernel_rfl)) (fun _ => by kernel_rfl) (fun x9_2 hx9_2 => ?_)
   let E14 : Env := ((118, .bool (!x9_2.f2)) :: (117, .bool (!x9_2.f2)) :: (116, .bool x9_2.f2) :: (115, .vptr [.bool x9_2.f2, .bool x9_2.f3]) :: (114, .vptr [.int .i64 x9_2.f0, .int .i64 x9_2.f1, .bool x9_2.f2, .bool x9_2.f3]) :: E13)
   refine oR 4 (p' := (atN 7 (ctl1 g7p27))) (eE := E14) (H' := (mkH [])) (by kernel_rfl) ?_
   refine oJ (f := fun (z16 : Bool × Int) => if z16.1 then (some false) else ((nthL x3_2 z16.2).bind fun x10_2 => c11 x10_2.f1 (fW .i64 (z16.2 + 1)))) g7p29 (fun (z16 : Bool × Int) => [(3, .vec (x1_1.1).length 3 ((x1_1.1).flatMap e47)), (6, .vec (x3_2).length 4 ((x3_2).flatMap e37)), (7, .int .i64 z16.2), (130, .bool z16.1)]) (fun (z16 : Bool × Int) => (mkH [])) (fun z16 => ?_) (fun j16 hj16 => ?_)
   ·refine oS 130 (b := z16.1) (by kernel_rfl) (fun hb => ?_) (fun hb => ?_)
    ·let E15 : Env := [(2, .bool false), (130, .bool true), (3, .vec (x1_1.1).length 3 ((x1_1.1).flatMap e47)), (6, .vec (x3_2).length 4 ((x3_2).flatMap e37)), (7, .int .i64 z16.2), (130, .bool z16.1)]
     refine oR 6 (p' := .fin) (eE := E15) (H' := (mkH [])) (by kernel_rfl) ?_
     exact oT (r := false) (xs := [.bool false]) (v := .bool false) (by kernel_rfl) (by kernel_rfl) (by kernel_rfl) (.pures (by kernel_rfl)) (by kernel_rfl)
    ·let E16 : Env := [(132, .int .i64 z16.2), (131, .vec (x3_2).length 4 ((x3_2).flatMap e37)), (130, .bool false), (3, .vec (x1_1.1).length 3 ((x1_1.1).flatMap e47)), (6, .vec (x3_2).length 4 ((x3_2).flatMap e37)), (7, .int .i64 z16.2), (130, .bool z16.1)]
     refine oR 5 (p' := (atN 2 (ctl1 g7p33))) (eE := E16) (H' := (mkH [])) (by kernel_rfl) ?_
     refine oH (fun (x10_2 : S36) => (.vptr [.int .i64 x10_2.f0, .int .i64 x10_2.f1, .bool x10_2.f2, .bool x10_2.f3], (mkH []))) (atN 3 (ctl1 g7p33)) (fun x10_2 => ((133, .vptr [.int .i64 x10_2.f0, .int .i64 x10_2.f1, .bool x10_2.f2, .bool x10_2.f3]) :: E16)) (vidxH (sz := 4) e37_len (by kernel_rfl)) (fun _ => by kernel_rfl) (fun x10_2 hx10_2 => ?_)
     refine oR 4 (p' := g7p34) (eE := ((5, .int .i64 x10_2.f1) :: (135, .int .i64 x10_2.f1) :: (134, .vptr [.int .i64 x10_2.f1, .bool x10_2.f2, .bool x10_2.f3]) :: (133, .vptr [.int .i64 x10_2.f0, .int .i64 x10_2.f1, .bool x10_2.f2, .bool x10_2.f3]) :: E16)) (H' := (mkH [])) (by kernel_rfl) ?_
     refine oK [3, 5, 6, 7] (eE := [(3, .vec (x1_1.1).length 3 ((x1_1.1).flatMap e47)), (5, .int .i64 x10_2.f1), (6, .vec (x3_2).length 4 ((x3_2).flatMap e37)), (7, .int .i64 z16.2)]) (by kernel_rfl) ?_
     let E17 : Env := [(7, .int .i64 (fW .i64 (z16.2 + 1))), (29, .int .i64 (fW .i64 (z16.2 + 1))), (28, .int .i64 z16.2), (3, .vec (x1_1.1).length 3 ((x1_1.1).flatMap e47)), (5, .int .i64 x10_2.f1), (6, .vec (x3_2).length 4 ((x3_2).flatMap e37)), (7, .int .i64 z16.2)]
     refine oR 5 (p' := g7p12) (eE := E17) (H' := (mkH [])) (by kernel_rfl) ?_
     refine oK [3, 5, 6, 7] (eE := [(3, .vec (x1_1.1).length 3 ((x1_1.1).flatMap e47)), (5, .int .i64 x10_2.f1), (6, .vec (x3_2).length 4 ((x3_2).flatMap e37)), (7, .int .i64 (fW .i64 (z16.2 + 1)))]) (by kernel_rfl) ?_
     exact hc11 x10_2.f1 (fW .i64 (z16.2 + 1))
   ·refine oS 118 (b := !x9_2.f2) (by kernel_rfl) (fun hb => ?_) (fun hb => ?_)
    ·refine oR 3 (p' := (atN 10 (ctl1 g7p27))) (eE := ((121, .int .i64 z15) :: (120, .vec (x3_2).length 4 ((x3_2).flatMap e37)) :: (119, .vec (x1_1.1).length 3 ((x1_1.1).flatMap e47)) :: (118, .bool true) :: E14)) (H' := (mkH [])) (by kernel_rfl) ?_
     refine oH (fun (x9_10 : S36) => (.vptr [.int .i64 x9_10.f0, .int .i64 x9_10.f1, .bool x9_10.f2, .bool x9_10.f3], (mkH []))) (atN 11 (ctl1 g7p27)) (fun x9_10 => ((122, .vptr [.int .i64 x9_10.f0, .int .i64 x9_10.f1, .bool x9_10.f2, .bool x9_10.f3]) :: (121, .int .i64 z15) :: (120, .vec (x3_2).length 4 ((x3_2).flatMap e37)) :: (119, .vec (x1_1.1).length 3 ((x1_1.1).flatMap e47)) :: (118, .bool true) :: E14)) (vidxH (sz := 4) e37_len (by kernel_rfl)) (fun _ => by kernel_rfl) (fun x9_10 hx9_10 => ?_)
     let E18 : Env := ((125, .int .i64 (fW .i64 (x9_10.f1 - 1))) :: (124, .int .i64 x9_10.f1) :: (123, .vptr [.int .i64 x9_10.f1, .bool x9_10.f2, .bool x9_10.f3]) :: (122, .vptr [.int .i64 x9_10.f0, .int .i64 x9_10.f1, .bool x9_10.f2, .bool x9_10.f3]) :: (121, .int .i64 z15) :: (120, .vec (x3_2).length 4 ((x3_2).flatMap e37)) :: (119, .vec (x1_1.1).length 3 ((x1_1.1).flatMap e47)) :: (118, .bool true) :: E14)
     refine oR 3 (p' := (atN 14 (ctl1 g7p27))) (eE := E18) (H' := (mkH [])) (by kernel_rfl) ?_
     refine oH (fun (x9_14 : S46) => (.vptr [.int .i64 x9_14.f0, .str x9_14.f1, .int .i64 x9_14.f2], (mkH []))) (atN 15 (ctl1 g7p27)) (fun x9_14 => ((126, .vptr [.int .i64 x9_14.f0, .str x9_14.f1, .int .i64 x9_14.f2]) :: E18)) (vidxH (sz := 3) e47_len (by kernel_rfl)) (fun _ => by kernel_rfl) (fun x9_14 hx9_14 => ?_)
     let E19 : Env := ((130, .bool (decide (x9_14.f0 = 11))) :: (129, .bool (decide (x9_14.f0 = 11))) :: (128, .int .i64 x9_14.f0) :: (127, .vptr [.int .i64 x9_14.f0, .str x9_14.f1, .int .i64 x9_14.f2]) :: (126, .vptr [.int .i64 x9_14.f0, .str x9_14.f1, .int .i64 x9_14.f2]) :: E18)
     refine oR 5 (p' := g7p29) (eE := E19) (H' := (mkH [])) (by kernel_rfl) ?_
     refine oK [3, 6, 7, 130] (eE := [(3, .vec (x1_1.1).length 3 ((x1_1.1).flatMap e47)), (6, .vec (x3_2).length 4 ((x3_2).flatMap e37)), (7, .int .i64 z15), (130, .bool (decide (x9_14.f0 = 11)))]) (by kernel_rfl) ?_
     exact hj16 (decide (x9_14.f0 = 11), z15)
    ·let E20 : Env := ((130, .bool false) :: (129, .tuple []) :: (128, .tuple []) :: (127, .tuple []) :: (126, .tuple []) :: (125, .tuple []) :: (124, .tuple []) :: (123, .tuple []) :: (122, .tuple []) :: (121, .tuple []) :: (120, .tuple []) :: (119, .tuple []) :: (118, .bool false) :: E14)
     refine oR 13 (p' := g7p29) (eE := E20) (H' := (mkH [])) (by kernel_rfl) ?_
     refine oK [3, 6, 7, 130] (eE := [(3, .vec (x1_1.1).length 3 ((x1_1.1).flatMap e47)), (6, .vec (x3_2).length 4 ((x3_2).flatMap e37)), (7, .int .i64 z15), (130, .bool false)]) (by kernel_rfl) ?_
     exact hj16 (false, z15)
  ·refine oS 103 (b := decide (y14_0 < fW .i64 (x7_3.f1 - 1))) (by kernel_rfl) (fun hb => ?_) (fun hb => ?_)
   ·let E21 : Env := [(107, .int .i64 y14_0), (106, .vec (x1_1.1).length 3 ((x1_1.1).flatMap e47)), (103, .bool true), (3, .vec (x1_1.1).length 3 ((x1_1.1).flatMap e47)), (6, .vec (x3_2).length 4 ((x3_2).flatMap e37)), (7, .int .i64 y14_1), (8, .int .i64 y14_0), (103, .bool (decide (y14_0 < fW .i64 (x7_3.f1 - 1))))]
    refine oR 8 (p' := (atN 2 (ctl1 g7p26))) (eE := E21) (H' := (mkH [])) (by kernel_rfl) ?_
    refine oH (fun (x8_2 : S46) => (.vptr [.int .i64 x8_2.f0, .str x8_2.f1, .int .i64 x8_2.f2], (mkH []))) (atN 3 (ctl1 g7p26)) (fun x8_2 => ((108, .vptr [.int .i64 x8_2.f0, .str x8_2.f1, .int .i64 x8_2.f2]) :: E21)) (vidxH (sz := 3) e47_len (by kernel_rfl)) (fun _ => by kernel_rfl) (fun x8_2 hx8_2 => ?_)
    refine oR 4 (p' := g7p28) (eE := ((111, .bool (decide (x8_2.f0 = 10))) :: (110, .int .i64 x8_2.f0) :: (109, .vptr [.int .i64 x8_2.f0, .str x8_2.f1, .int .i64 x8_2.f2]) :: (108, .vptr [.int .i64 x8_2.f0, .str x8_2.f1, .int .i64 x8_2.f2]) :: E21)) (H' := (mkH [])) (by kernel_rfl) ?_
    refine oK [3, 6, 7, 8, 111] (eE := [(3, .vec (x1_1.1).length 3 ((x1_1.1).flatMap e47)), (6, .vec (x3_2).length 4 ((x3_2).flatMap e37)), (7, .int .i64 y14_1), (8, .int .i64 y14_0), (111, .bool (decide (x8_2.f0 = 10)))]) (by kernel_rfl) ?_
    refine oS 111 (b := decide (x8_2.f0 = 10)) (by kernel_rfl) (fun hb => ?_) (fun hb => ?_)
    ·let E22 : Env := [(2, .bool false), (111, .bool true), (3, .vec (x1_1.1).length 3 ((x1_1.1).flatMap e47)), (6, .vec (x3_2).length 4 ((x3_2).flatMap e37)), (7, .int .i64 y14_1), (8, .int .i64 y14_0), (111, .bool (decide (x8_2.f0 = 10)))]
     refine oR 6 (p' := .fin) (eE := E22) (H' := (mkH [])) (by kernel_rfl) ?_
     exact oT (r := false) (xs := [.bool false]) (v := .bool false) (by kernel_rfl) (by kernel_rfl) (by kernel_rfl) (.pures (by kernel_rfl)) (by kernel_rfl)
    ·let E23 : Env := [(8, .int .i64 (fW .i64 (y14_0 + 1))), (105, .int .i64 (fW .i64 (y14_0 + 1))), (104, .int .i64 y14_0), (111, .bool false), (3, .vec (x1_1.1).length 3 ((x1_1.1).flatMap e47)), (6, .vec (x3_2).length 4 ((x3_2).flatMap e37)), (7, .int .i64 y14_1), (8, .int .i64 y14_0), (111, .bool (decide (x8_2.f0 = 10)))]
     refine oR 7 (p' := g7p23) (eE := E23) (H' := (mkH [])) (by kernel_rfl) ?_
     refine oK [3, 6, 7, 8] (eE := [(3, .vec (x1_1.1).length 3 ((x1_1.1).flatMap e47)), (6, .vec (x3_2).length 4 ((x3_2).flatMap e37)), (7, .int .i64 y14_1), (8, .int .i64 (fW .i64 (y14_0 + 1)))]) (by kernel_rfl) ?_
     exact ih (fW .i64 (y14_0 + 1)) y14_1
   ·let E24 : Env := [(103, .bool false), (3, .vec (x1_1.1).length 3 ((x1_1.1).flatMap e47)), (6, .vec (x3_2).length 4 ((x3_2).flatMap e37)), (7, .int .i64 y14_1), (8, .int .i64 y14_0), (103, .bool (decide (y14_0 < fW .i64 (x7_3.f1 - 1))))]
    refine oR 4 (p' := g7p27) (eE := E24) (H' := (mkH [])) (by kernel_rfl) ?_
    refine oK [3, 6, 7] (eE := [(3, .vec (x1_1.1).length 3 ((x1_1.1).flatMap e47)), (6, .vec (x3_2).length 4 ((x3_2).flatMap e37)), (7, .int .i64 y14_1)]) (by kernel_rfl) ?_
    exact hj15 y14_1
def g7_l11 (k : Nat)  (x1_1 : ((List S46) × Int)) (x3_2 : (List S36)) (n : Nat) : Int → Int → Option Bool :=
 Nat.rec (motive := fun _ => Int → Int → Option Bool) (fun _ _ => none) (fun _ ih => fun (y11_0 : Int) (y11_1 : Int) => if (decide (y11_1 < (x3_2.length : Int))) then ((nthL x3_2 y11_1).bind fun x4_2 => jn (fun (z12 : Bool × Int × Int) => if z12.1 then (some false) else ((nthL x3_2 z12.2.2).bind fun x6_2 => jn (fun (z13 : Bool × Int × Int) => if z13.1 then (some false) else (g7_l14 k ih x1_1 x3_2 y11_0 y11_1 k z13.2.1 z13.2.2)) (fun j13 => if x6_2.f2 then ((nthL x3_2 z12.2.2).bind fun x6_8 => if (!decide (x6_8.f1 = fW .i64 (z12.2.1 + 1))) then (j13 (true, z12.2.1, z12.2.2)) else ((nthL x1_1.1 z12.2.1).bind fun x6_17 => if (!decide (x6_17.f0 = 11)) then (j13 (true, z12.2.1, z12.2.2)) else ((nthL x3_2 z12.2.2).bind fun x6_26 => if (!x6_26.f2) then ((nthL x1_1.1 z12.2.1).bind fun x6_33 => j13 (decide (x6_33.f0 = 11), z12.2.1, z12.2.2)) else (j13 (false, z12.2.1, z12.2.2))))) else ((nthL x3_2 z12.2.2).bind fun x6_26 => if (!x6_26.f2) then ((nthL x1_1.1 z12.2.1).bind fun x6_33 => j13 (decide (x6_33.f0 = 11), z12.2.1, z12.2.2)) else (j13 (false, z12.2.1, z12.2.2)))))) (fun j12 => if (!decide (x4_2.f0 = y11_0)) then (j12 (true, y11_0, y11_1)) else ((nthL x3_2 y11_1).bind fun x4_10 => if (decide (x4_10.f1 ≤ y11_0)) then (j12 (true, y11_0, y11_1)) else ((nthL x3_2 y11_1).bind fun x4_19 => j12 (decide ((x1_1.1.length : Int) < x4_19.f1), y11_0, y11_1))))) else ((g27 k).bind fun x5_0 => if x5_0 then (some (decide (y11_0 = (x1_1.1.length : Int)))) else (some false))) n
theorem g7_l11_s (k : Nat)  (x1_1 : ((List S46) × Int)) (x3_2 : (List S36)) (n : Nat) (y11_0 : Int) (y11_1 : Int) : g7_l11 k x1_1 x3_2 (n + 1) y11_0 y11_1 = (if (decide (y11_1 < (x3_2.length : Int))) then ((nthL x3_2 y11_1).bind fun x4_2 => jn (fun (z12 : Bool × Int × Int) => if z12.1 then (some false) else ((nthL x3_2 z12.2.2).bind fun x6_2 => jn (fun (z13 : Bool × Int × Int) => if z13.1 then (some false) else (g7_l14 k (g7_l11 k x1_1 x3_2 n) x1_1 x3_2 y11_0 y11_1 k z13.2.1 z13.2.2)) (fun j13 => if x6_2.f2 then ((nthL x3_2 z12.2.2).bind fun x6_8 => if (!decide (x6_8.f1 = fW .i64 (z12.2.1 + 1))) then (j13 (true, z12.2.1, z12.2.2)) else ((nthL x1_1.1 z12.2.1).bind fun x6_17 => if (!decide (x6_17.f0 = 11)) then (j13 (true, z12.2.1, z12.2.2)) else ((nthL x3_2 z12.2.2).bind fun x6_26 => if (!x6_26.f2) then ((nthL x1_1.1 z12.2.1).bind fun x6_33 => j13 (decide (x6_33.f0 = 11), z12.2.1, z12.2.2)) else (j13 (false, z12.2.1, z12.2.2))))) else ((nthL x3_2 z12.2.2).bind fun x6_26 => if (!x6_26.f2) then ((nthL x1_1.1 z12.2.1).bind fun x6_33 => j13 (decide (x6_33.f0 = 11), z12.2.1, z12.2.2)) else (j13 (false, z12.2.1, z12.2.2)))))) (fun j12 => if (!decide (x4_2.f0 = y11_0)) then (j12 (true, y11_0, y11_1)) else ((nthL x3_2 y11_1).bind fun x4_10 => if (decide (x4_10.f1 ≤ y11_0)) then (j12 (true, y11_0, y11_1)) else ((nthL x3_2 y11_1).bind fun x4_19 => j12 (decide ((x1_1.1.length : Int) < x4_19.f1), y11_0, y11_1))))) else ((g27 k).bind fun x5_0 => if x5_0 then (some (decide (y11_0 = (x1_1.1.length : Int)))) else (some false))) := rfl
theorem g7_l11_ok (k : Nat)  (x1_1 : ((List S46) × Int)) (x3_2 : (List S36))  : ∀ (n : Nat) (y11_0 : Int) (y11_1 : Int), Ok X7 g7p12 [(3, .vec (x1_1.1).length 3 ((x1_1.1).flatMap e47)), (5, .int .i64 y11_0), (6, .vec (x3_2).length 4 ((x3_2).flatMap e37)), (7, .int .i64 y11_1)] (mkH []) (g7_l11 k x1_1 x3_2 n y11_0 y11_1)
 | 0, _, _ => ok_none
 | n + 1, y11_0, y11_1 => by
  have ih := g7_l11_ok k x1_1 x3_2 n
  rw [g7_l11_s]
  refine ok_ent (p' := nav [0] g7p12) (by kernel_rfl) ?_
  let E5 : Env := [(27, .bool (decide (y11_1 < (x3_2.length : Int)))), (26, .int .i64 (x3_2.length : Int)), (25, .vec (x3_2).length 4 ((x3_2).flatMap e37)), (24, .int .i64 y11_1), (3, .vec (x1_1.1).length 3 ((x1_1.1).flatMap e47)), (5, .int .i64 y11_0), (6, .vec (x3_2).length 4 ((x3_2).flatMap e37)), (7, .int .i64 y11_1)]
  refine oR 8 (p' := g7p14) (eE := E5) (H' := (mkH [])) (by kernel_rfl) ?_
  refine oS 27 (b := decide (y11_1 < (x3_2.length : Int))) (by kernel_rfl) (fun hb => ?_) (fun hb => ?_)
  ·refine oR 9 (p' := (atN 2 (ctl1 g7p15))) (eE := ((31, .int .i64 y11_1) :: (30, .vec (x3_2).length 4 ((x3_2).flatMap e37)) :: (27, .bool true) :: E5)) (H' := (mkH [])) (by kernel_rfl) ?_
   refine oH (fun (x4_2 : S36) => (.vptr [.int .i64 x4_2.f0, .int .i64 x4_2.f1, .bool x4_2.f2, .bool x4_2.f3], (mkH []))) (atN 3 (ctl1 g7p15)) (fun x4_2 => ((32, .vptr [.int .i64 x4_2.f0, .int .i64 x4_2.f1, .bool x4_2.f2, .bool x4_2.f3]) :: (31, .int .i64 y11_1) :: (30, .vec (x3_2).length 4 ((x3_2).flatMap e37)) :: (27, .bool true) :: E5)) (vidxH (sz := 4) e37_len (by kernel_rfl)) (fun _ => by kernel_rfl) (fun x4_2 hx4_2 => ?_)
   let E6 : Env := ((37, .bool (!decide (x4_2.f0 = y11_0))) :: (36, .bool (!decide (x4_2.f0 = y11_0))) :: (35, .int .i64 y11_0) :: (34, .int .i64 x4_2.f0) :: (33, .vptr [.int .i64 x4_2.f0, .int .i64 x4_2.f1, .bool x4_2.f2, .bool x4_2.f3]) :: (32, .vptr [.int .i64 x4_2.f0, .int .i64 x4_2.f1, .bool x4_2.f2, .bool x4_2.f3]) :: (31, .int .i64 y11_1) :: (30, .vec (x3_2).length 4 ((x3_2).flatMap e37)) :: (27, .bool true) :: E5)
   refine oR 5 (p' := (atN 8 (ctl1 g7p15))) (eE := E6) (H' := (mkH [])) (by kernel_rfl) ?_
   refine oJ (f := fun (z12 : Bool × Int × Int) => if z12.1 then (some false) else ((nthL x3_2 z12.2.2).bind fun x6_2 => jn (fun (z13 : Bool × Int × Int) => if z13.1 then (some false) else (g7_l14 k (g7_l11 k x1_1 x3_2 n) x1_1 x3_2 y11_0 y11_1 k z13.2.1 z13.2.2)) (fun j13 => if x6_2.f2 then ((nthL x3_2 z12.2.2).bind fun x6_8 => if (!decide (x6_8.f1 = fW .i64 (z12.2.1 + 1))) then (j13 (true, z12.2.1, z12.2.2)) else ((nthL x1_1.1 z12.2.1).bind fun x6_17 => if (!decide (x6_17.f0 = 11)) then (j13 (true, z12.2.1, z12.2.2)) else ((nthL x3_2 z12.2.2).bind fun x6_26 => if (!x6_26.f2) then ((nthL x1_1.1 z12.2.1).bind fun x6_33 => j13 (decide (x6_33.f0 = 11), z12.2.1, z12.2.2)) else (j13 (false, z12.2.1, z12.2.2))))) else ((nthL x3_2 z12.2.2).bind fun x6_26 => if (!x6_26.f2) then ((nthL x1_1.1 z12.2.1).bind fun x6_33 => j13 (decide (x6_33.f0 = 11), z12.2.1, z12.2.2)) else (j13 (false, z12.2.1, z12.2.2)))))) g7p17 (fun (z12 : Bool × Int × Int) => [(3, .vec (x1_1.1).length 3 ((x1_1.1).flatMap e47)), (5, .int .i64 z12.2.1), (6, .vec (x3_2).length 4 ((x3_2).flatMap e37)), (7, .int .i64 z12.2.2), (55, .bool z12.1)]) (fun (z12 : Bool × Int × Int) => (mkH [])) (fun z12 => ?_) (fun j12 hj12 => ?_)
   ·refine oS 55 (b := z12.1) (by kernel_rfl) (fun hb => ?_) (fun hb => ?_)
    ·let E7 : Env := [(2, .bool false), (55, .bool true), (3, .vec (x1_1.1).length 3 ((x1_1.1).flatMap e47)), (5, .int .i64 z12.2.1), (6, .vec (x3_2).length 4 ((x3_2).flatMap e37)), (7, .int .i64 z12.2.2), (55, .bool z12.1)]
     refine oR 6 (p' := .fin) (eE := E7) (H' := (mkH [])) (by kernel_rfl) ?_
     exact oT (r := false) (xs := [.bool false]) (v := .bool false) (by kernel_rfl) (by kernel_rfl) (by kernel_rfl) (.pures (by kernel_rfl)) (by kernel_rfl)
    ·let E8 : Env := [(57, .int .i64 z12.2.2), (56, .vec (x3_2).length 4 ((x3_2).flatMap e37)), (55, .bool false), (3, .vec (x1_1.1).length 3 ((x1_1.1).flatMap e47)), (5, .int .i64 z12.2.1), (6, .vec (x3_2).length 4 ((x3_2).flatMap e37)), (7, .int .i64 z12.2.2), (55, .bool z12.1)]
     refine oR 7 (p' := (atN 2 (ctl1 g7p19))) (eE := E8) (H' := (mkH [])) (by kernel_rfl) ?_
     refine oH (fun (x6_2 : S36) => (.vptr [.int .i64 x6_2.f0, .int .i64 x6_2.f1, .bool x6_2.f2, .bool x6_2.f3], (mkH []))) (atN 3 (ctl1 g7p19)) (fun x6_2 => ((58, .vptr [.int .i64 x6_2.f0, .int .i64 x6_2.f1, .bool x6_2.f2, .bool x6_2.f3]) :: E8)) (vidxH (sz := 4) e37_len (by kernel_rfl)) (fun _ => by kernel_rfl) (fun x6_2 hx6_2 => ?_)
     refine oR 3 (p' := (atN 6 (ctl1 g7p19))) (eE := ((61, .bool x6_2.f2) :: (60, .bool x6_2.f2) :: (59, .vptr [.bool x6_2.f2, .bool x6_2.f3]) :: (58, .vptr [.int .i64 x6_2.f0, .int .i64 x6_2.f1, .bool x6_2.f2, .bool x6_2.f3]) :: E8)) (H' := (mkH [])) (by kernel_rfl) ?_
     refine oJ (f := fun (z13 : Bool × Int × Int) => if z13.1 then (some false) else (g7_l14 k (g7_l11 k x1_1 x3_2 n) x1_1 x3_2 y11_0 y11_1 k z13.2.1 z13.2.2)) g7p20 (fun (z13 : Bool × Int × Int) => [(3, .vec (x1_1.1).length 3 ((x1_1.1).flatMap e47)), (5, .int .i64 z13.2.1), (6, .vec (x3_2).length 4 ((x3_2).flatMap e37)), (7, .int .i64 z13.2.2), (94, .bool z13.1)]) (fun (z13 : Bool × Int × Int) => (mkH [])) (fun z13 => ?_) (fun j13 hj13 => ?_)
     ·refine oS 94 (b := z13.1) (by kernel_rfl) (fun hb => ?_) (fun hb => ?_)
      ·let E9 : Env := [(2, .bool false), (94, .bool true), (3, .vec (x1_1.1).length 3 ((x1_1.1).flatMap e47)), (5, .int .i64 z13.2.1), (6, .vec (x3_2).length 4 ((x3_2).flatMap e37)), (7, .int .i64 z13.2.2), (94, .bool z13.1)]
       refine oR 6 (p' := .fin) (eE := E9) (H' := (mkH [])) (by kernel_rfl) ?_
       exact oT (r := false) (xs := [.bool false]) (v := .bool false) (by kernel_rfl) (by kernel_rfl) (by kernel_rfl) (.pures (by kernel_rfl)) (by kernel_rfl)
      ·let E10 : Env := [(8, .int .i64 z13.2.1), (95, .int .i64 z13.2.1), (94, .bool false), (3, .vec (x1_1.1).length 3 ((x1_1.1).flatMap e47)), (5, .int .i64 z13.2.1), (6, .vec (x3_2).length 4 ((x3_2).flatMap e37)), (7, .int .i64 z13.2.2), (94, .bool z13.1)]
       refine oR 10 (p' := g7p23) (eE := E10) (H' := (mkH [])) (by kernel_rfl) ?_
       refine oK [3, 6, 7, 8] (eE := [(3, .vec (x1_1.1).length 3 ((x1_1.1).flatMap e47)), (6, .vec (x3_2).length 4 ((x3_2).flatMap e37)), (7, .int .i64 z13.2.2), (8, .int .i64 z13.2.1)]) (by kernel_rfl) ?_
       exact (g7_l14_ok k (g7_l11 k x1_1 x3_2 n) x1_1 x3_2 y11_0 y11_1 ih k) z13.2.1 z13.2.2
     ·refine oS 61 (b := x6_2.f2) (by kernel_rfl) (fun hb => ?_) (fun hb => ?_)
      ·let E25 : Env := ((63, .int .i64 z12.2.2) :: (62, .vec (x3_2).length 4 ((x3_2).flatMap e37)) :: (61, .bool true) :: (61, .bool x6_2.f2) :: (60, .bool x6_2.f2) :: (59, .vptr [.bool x6_2.f2, .bool x6_2.f3]) :: (58, .vptr [.int .i64 x6_2.f0, .int .i64 x6_2.f1, .bool x6_2.f2, .bool x6_2.f3]) :: E8)
       refine oR 2 (p' := (atN 8 (ctl1 g7p19))) (eE := E25) (H' := (mkH [])) (by kernel_rfl) ?_
       refine oH (fun (x6_8 : S36) => (.vptr [.int .i64 x6_8.f0, .int .i64 x6_8.f1, .bool x6_8.f2, .bool x6_8.f3], (mkH []))) (atN 9 (ctl1 g7p19)) (fun x6_8 => ((64, .vptr [.int .i64 x6_8.f0, .int .i64 x6_8.f1, .bool x6_8.f2, .bool x6_8.f3]) :: E25)) (vidxH (sz := 4) e37_len (by kernel_rfl)) (fun _ => by kernel_rfl) (fun x6_8 hx6_8 => ?_)
       let E26 : Env := ((70, .bool (!decide (x6_8.f1 = fW .i64 (z12.2.1 + 1)))) :: (69, .bool (!decide (x6_8.f1 = fW .i64 (z12.2.1 + 1)))) :: (68, .int .i64 (fW .i64 (z12.2.1 + 1))) :: (67, .int .i64 z12.2.1) :: (66, .int .i64 x6_8.f1) :: (65, .vptr [.int .i64 x6_8.f1, .bool x6_8.f2, .bool x6_8.f3]) :: (64, .vptr [.int .i64 x6_8.f0, .int .i64 x6_8.f1, .bool x6_8.f2, .bool x6_8.f3]) :: E25)
       refine oR 6 (p' := (atN 15 (ctl1 g7p19))) (eE := E26) (H' := (mkH [])) (by kernel_rfl) ?_
       refine oS 70 (b := !decide (x6_8.f1 = fW .i64 (z12.2.1 + 1))) (by kernel_rfl) (fun hb => ?_) (fun hb => ?_)
       ·let E27 : Env := ((94, .bool true) :: (93, .tuple []) :: (92, .tuple []) :: (91, .tuple []) :: (90, .tuple []) :: (89, .tuple []) :: (88, .tuple []) :: (87, .tuple []) :: (86, .tuple []) :: (85, .tuple []) :: (84, .tuple []) :: (83, .tuple []) :: (82, .tuple []) :: (81, .tuple []) :: (80, .tuple []) :: (79, .bool true) :: (78, .bool true) :: (77, .bool true) :: (76, .tuple []) :: (75, .tuple []) :: (74, .tuple []) :: (73, .tuple []) :: (72, .tuple []) :: (71, .tuple []) :: (70, .bool true) :: E26)
        refine oR 25 (p' := g7p20) (eE := E27) (H' := (mkH [])) (by kernel_rfl) ?_
        refine oK [3, 5, 6, 7, 94] (eE := [(3, .vec (x1_1.1).length 3 ((x1_1.1).flatMap e47)), (5, .int .i64 z12.2.1), (6, .vec (x3_2).length 4 ((x3_2).flatMap e37)), (7, .int .i64 z12.2.2), (94, .bool true)]) (by kernel_rfl) ?_
        exact hj13 (true, z12.2.1, z12.2.2)
       ·refine oR 2 (p' := (atN 17 (ctl1 g7p19))) (eE := ((72, .int .i64 z12.2.1) :: (71, .vec (x1_1.1).length 3 ((x1_1.1).flatMap e47)) :: (70, .bool false) :: E26)) (H' := (mkH [])) (by kernel_rfl) ?_
        refine oH (fun (x6_17 : S46) => (.vptr [.int .i64 x6_17.f0, .str x6_17.f1, .int .i64 x6_17.f2], (mkH []))) (atN 18 (ctl1 g7p19)) (fun x6_17 => ((73, .vptr [.int .i64 x6_17.f0, .str x6_17.f1, .int .i64 x6_17.f2]) :: (72, .int .i64 z12.2.1) :: (71, .vec (x1_1.1).length 3 ((x1_1.1).flatMap e47)) :: (70, .bool false) :: E26)) (vidxH (sz := 3) e47_len (by kernel_rfl)) (fun _ => by kernel_rfl) (fun x6_17 hx6_17 => ?_)
        let E28 : Env := ((79, .bool (!decide (x6_17.f0 = 11))) :: (78, .bool (!decide (x6_17.f0 = 11))) :: (77, .bool (!decide (x6_17.f0 = 11))) :: (76, .bool (!decide (x6_17.f0 = 11))) :: (75, .int .i64 x6_17.f0) :: (74, .vptr [.int .i64 x6_17.f0, .str x6_17.f1, .int .i64 x6_17.f2]) :: (73, .vptr [.int .i64 x6_17.f0, .str x6_17.f1, .int .i64 x6_17.f2]) :: (72, .int .i64 z12.2.1) :: (71, .vec (x1_1.1).length 3 ((x1_1.1).flatMap e47)) :: (70, .bool false) :: E26)
        refine oR 6 (p' := (atN 24 (ctl1 g7p19))) (eE := E28) (H' := (mkH [])) (by kernel_rfl) ?_
        refine oS 79 (b := !decide (x6_17.f0 = 11)) (by kernel_rfl) (fun hb => ?_) (fun hb => ?_)
        ·let E29 : Env := ((94, .bool true) :: (93, .tuple []) :: (92, .tuple []) :: (91, .tuple []) :: (90, .tuple []) :: (89, .tuple []) :: (88, .tuple []) :: (87, .tuple []) :: (86, .tuple []) :: (85, .tuple []) :: (84, .tuple []) :: (83, .tuple []) :: (82, .tuple []) :: (81, .tuple []) :: (80, .tuple []) :: (79, .bool true) :: E28)
         refine oR 16 (p' := g7p20) (eE := E29) (H' := (mkH [])) (by kernel_rfl) ?_
         refine oK [3, 5, 6, 7, 94] (eE := [(3, .vec (x1_1.1).length 3 ((x1_1.1).flatMap e47)), (5, .int .i64 z12.2.1), (6, .vec (x3_2).length 4 ((x3_2).flatMap e37)), (7, .int .i64 z12.2.2), (94, .bool true)]) (by kernel_rfl) ?_
         exact hj13 (true, z12.2.1, z12.2.2)
        ·refine oR 2 (p' := (atN 26 (ctl1 g7p19))) (eE := ((81, .int .i64 z12.2.2) :: (80, .vec (x3_2).length 4 ((x3_2).flatMap e37)) :: (79, .bool false) :: E28)) (H' := (mkH [])) (by kernel_rfl) ?_
         refine oH (fun (x6_26 : S36) => (.vptr [.int .i64 x6_26.f0, .int .i64 x6_26.f1, .bool x6_26.f2, .bool x6_26.f3], (mkH []))) (atN 27 (ctl1 g7p19)) (fun x6_26 => ((82, .vptr [.int .i64 x6_26.f0, .int .i64 x6_26.f1, .bool x6_26.f2, .bool x6_26.f3]) :: (81, .int .i64 z12.2.2) :: (80, .vec (x3_2).length 4 ((x3_2).flatMap e37)) :: (79, .bool false) :: E28)) (vidxH (sz := 4) e37_len (by kernel_rfl)) (fun _ => by kernel_rfl) (fun x6_26 hx6_26 => ?_)
         let E30 : Env := ((86, .bool (!x6_26.f2)) :: (85, .bool (!x6_26.f2)) :: (84, .bool x6_26.f2) :: (83, .vptr [.bool x6_26.f2, .bool x6_26.f3]) :: (82, .vptr [.int .i64 x6_26.f0, .int .i64 x6_26.f1, .bool x6_26.f2, .bool x6_26.f3]) :: (81, .int .i64 z12.2.2) :: (80, .vec (x3_2).length 4 ((x3_2).flatMap e37)) :: (79, .bool false) :: E28)
         refine oR 4 (p' := (atN 31 (ctl1 g7p19))) (eE := E30) (H' := (mkH [])) (by kernel_rfl) ?_
         refine oS 86 (b := !x6_26.f2) (by kernel_rfl) (fun hb => ?_) (fun hb => ?_)
         ·refine oR 2 (p' := (atN 33 (ctl1 g7p19))) (eE := ((88, .int .i64 z12.2.1) :: (87, .vec (x1_1.1).length 3 ((x1_1.1).flatMap e47)) :: (86, .bool true) :: E30)) (H' := (mkH [])) (by kernel_rfl) ?_
          refine oH (fun (x6_33 : S46) => (.vptr [.int .i64 x6_33.f0, .str x6_33.f1, .int .i64 x6_33.f2], (mkH []))) (atN 34 (ctl1 g7p19)) (fun x6_33 => ((89, .vptr [.int .i64 x6_33.f0, .str x6_33.f1, .int .i64 x6_33.f2]) :: (88, .int .i64 z12.2.1) :: (87, .vec (x1_1.1).length 3 ((x1_1.1).flatMap e47)) :: (86, .bool true) :: E30)) (vidxH (sz := 3) e47_len (by kernel_rfl)) (fun _ => by kernel_rfl) (fun x6_33 hx6_33 => ?_)
          let E31 : Env := ((94, .bool (decide (x6_33.f0 = 11))) :: (93, .bool (decide (x6_33.f0 = 11))) :: (92, .bool (decide (x6_33.f0 = 11))) :: (91, .int .i64 x6_33.f0) :: (90, .vptr [.int .i64 x6_33.f0, .str x6_33.f1, .int .i64 x6_33.f2]) :: (89, .vptr [.int .i64 x6_33.f0, .str x6_33.f1, .int .i64 x6_33.f2]) :: (88, .int .i64 z12.2.1) :: (87, .vec (x1_1.1).length 3 ((x1_1.1).flatMap e47)) :: (86, .bool true) :: E30)
          refine oR 6 (p' := g7p20) (eE := E31) (H' := (mkH [])) (by kernel_rfl) ?_
          refine oK [3, 5, 6, 7, 94] (eE := [(3, .vec (x1_1.1).length 3 ((x1_1.1).flatMap e47)), (5, .int .i64 z12.2.1), (6, .vec (x3_2).length 4 ((x3_2).flatMap e37)), (7, .int .i64 z12.2.2), (94, .bool (decide (x6_33.f0 = 11)))]) (by kernel_rfl) ?_
          exact hj13 (decide (x6_33.f0 = 11), z12.2.1, z12.2.2)
         ·let E32 : Env := ((94, .bool false) :: (93, .bool false) :: (92, .tuple []) :: (91, .tuple []) :: (90, .tuple []) :: (89, .tuple []) :: (88, .tuple []) :: (87, .tuple []) :: (86, .bool false) :: E30)
          refine oR 9 (p' := g7p20) (eE := E32) (H' := (mkH [])) (by kernel_rfl) ?_
          refine oK [3, 5, 6, 7, 94] (eE := [(3, .vec (x1_1.1).length 3 ((x1_1.1).flatMap e47)), (5, .int .i64 z12.2.1), (6, .vec (x3_2).length 4 ((x3_2).flatMap e37)), (7, .int .i64 z12.2.2), (94, .bool false)]) (by kernel_rfl) ?_
          exact hj13 (false, z12.2.1, z12.2.2)
      ·let E33 : Env := ((81, .int .i64 z12.2.2) :: (80, .vec (x3_2).length 4 ((x3_2).flatMap e37)) :: (79, .bool false) :: (78, .bool false) :: (77, .tuple []) :: (76, .tuple []) :: (75, .tuple []) :: (74, .tuple []) :: (73, .tuple []) :: (72, .tuple []) :: (71, .tuple []) :: (70, .tuple []) :: (69, .tuple []) :: (68, .tuple []) :: (67, .tuple []) :: (66, .tuple []) :: (65, .tuple []) :: (64, .tuple []) :: (63, .tuple []) :: (62, .tuple []) :: (61, .bool false) :: (61, .bool x6_2.f2) :: (60, .bool x6_2.f2) :: (59, .vptr [.bool x6_2.f2, .bool x6_2.f3]) :: (58, .vptr [.int .i64 x6_2.f0, .int .i64 x6_2.f1, .bool x6_2.f2, .bool x6_2.f3]) :: E8)
       refine oR 20 (p' := (atN 26 (ctl1 g7p19))) (eE := E33) (H' := (mkH [])) (by kernel_rfl) ?_
       refine oH (fun (x6_26 : S36) => (.vptr [.int .i64 x6_26.f0, .int .i64 x6_26.f1, .bool x6_26.f2, .bool x6_26.f3], (mkH []))) (atN 27 (ctl1 g7p19)) (fun x6_26 => ((82, .vptr [.int .i64 x6_26.f0, .int .i64 x6_26.f1, .bool x6_26.f2, .bool x6_26.f3]) :: E33)) (vidxH (sz := 4) e37_len (by kernel_rfl)) (fun _ => by kernel_rfl) (fun x6_26 hx6_26 => ?_)
       let E34 : Env := ((86, .bool (!x6_26.f2)) :: (85, .bool (!x6_26.f2)) :: (84, .bool x6_26.f2) :: (83, .vptr [.bool x6_26.f2, .bool x6_26.f3]) :: (82, .vptr [.int .i64 x6_26.f0, .int .i64 x6_26.f1, .bool x6_26.f2, .bool x6_26.f3]) :: E33)
       refine oR 4 (p' := (atN 31 (ctl1 g7p19))) (eE := E34) (H' := (mkH [])) (by kernel_rfl) ?_
       refine oS 86 (b := !x6_26.f2) (by kernel_rfl) (fun hb => ?_) (fun hb => ?_)
       ·refine oR 2 (p' := (atN 33 (ctl1 g7p19))) (eE := ((88, .int .i64 z12.2.1) :: (87, .vec (x1_1.1).length 3 ((x1_1.1).flatMap e47)) :: (86, .bool true) :: E34)) (H' := (mkH [])) (by kernel_rfl) ?_
        refine oH (fun (x6_33 : S46) => (.vptr [.int .i64 x6_33.f0, .str x6_33.f1, .int .i64 x6_33.f2], (mkH []))) (atN 34 (ctl1 g7p19)) (fun x6_33 => ((89, .vptr [.int .i64 x6_33.f0, .str x6_33.f1, .int .i64 x6_33.f2]) :: (88, .int .i64 z12.2.1) :: (87, .vec (x1_1.1).length 3 ((x1_1.1).flatMap e47)) :: (86, .bool true) :: E34)) (vidxH (sz := 3) e47_len (by kernel_rfl)) (fun _ => by kernel_rfl) (fun x6_33 hx6_33 => ?_)
        let E35 : Env := ((94, .bool (decide (x6_33.f0 = 11))) :: (93, .bool (decide (x6_33.f0 = 11))) :: (92, .bool (decide (x6_33.f0 = 11))) :: (91, .int .i64 x6_33.f0) :: (90, .vptr [.int .i64 x6_33.f0, .str x6_33.f1, .int .i64 x6_33.f2]) :: (89, .vptr [.int .i64 x6_33.f0, .str x6_33.f1, .int .i64 x6_33.f2]) :: (88, .int .i64 z12.2.1) :: (87, .vec (x1_1.1).length 3 ((x1_1.1).flatMap e47)) :: (86, .bool true) :: E34)
        refine oR 6 (p' := g7p20) (eE := E35) (H' := (mkH [])) (by kernel_rfl) ?_
        refine oK [3, 5, 6, 7, 94] (eE := [(3, .vec (x1_1.1).length 3 ((x1_1.1).flatMap e47)), (5, .int .i64 z12.2.1), (6, .vec (x3_2).length 4 ((x3_2).flatMap e37)), (7, .int .i64 z12.2.2), (94, .bool (decide (x6_33.f0 = 11)))]) (by kernel_rfl) ?_
        exact hj13 (decide (x6_33.f0 = 11), z12.2.1, z12.2.2)
       ·let E36 : Env := ((94, .bool false) :: (93, .bool false) :: (92, .tuple []) :: (91, .tuple []) :: (90, .tuple []) :: (89, .tuple []) :: (88, .tuple []) :: (87, .tuple []) :: (86, .bool false) :: E34)
        refine oR 9 (p' := g7p20) (eE := E36) (H' := (mkH [])) (by kernel_rfl) ?_
        refine oK [3, 5, 6, 7, 94] (eE := [(3, .vec (x1_1.1).length 3 ((x1_1.1).flatMap e47)), (5, .int .i64 z12.2.1), (6, .vec (x3_2).length 4 ((x3_2).flatMap e37)), (7, .int .i64 z12.2.2), (94, .bool false)]) (by kernel_rfl) ?_
        exact hj13 (false, z12.2.1, z12.2.2)
   ·refine oS 37 (b := !decide (x4_2.f0 = y11_0)) (by kernel_rfl) (fun hb => ?_) (fun hb => ?_)
    ·let E37 : Env := ((55, .bool true) :: (54, .tuple []) :: (53, .tuple []) :: (52, .tuple []) :: (51, .tuple []) :: (50, .tuple []) :: (49, .tuple []) :: (48, .tuple []) :: (47, .tuple []) :: (46, .bool true) :: (45, .bool true) :: (44, .tuple []) :: (43, .tuple []) :: (42, .tuple []) :: (41, .tuple []) :: (40, .tuple []) :: (39, .tuple []) :: (38, .tuple []) :: (37, .bool true) :: E6)
     refine oR 19 (p' := g7p17) (eE := E37) (H' := (mkH [])) (by kernel_rfl) ?_
     refine oK [3, 5, 6, 7, 55] (eE := [(3, .vec (x1_1.1).length 3 ((x1_1.1).flatMap e47)), (5, .int .i64 y11_0), (6, .vec (x3_2).length 4 ((x3_2).flatMap e37)), (7, .int .i64 y11_1), (55, .bool true)]) (by kernel_rfl) ?_
     exact hj12 (true, y11_0, y11_1)
    ·refine oR 2 (p' := (atN 10 (ctl1 g7p15))) (eE := ((39, .int .i64 y11_1) :: (38, .vec (x3_2).length 4 ((x3_2).flatMap e37)) :: (37, .bool false) :: E6)) (H' := (mkH [])) (by kernel_rfl) ?_
     refine oH (fun (x4_10 : S36) => (.vptr [.int .i64 x4_10.f0, .int .i64 x4_10.f1, .bool x4_10.f2, .bool x4_10.f3], (mkH []))) (atN 11 (ctl1 g7p15)) (fun x4_10 => ((40, .vptr [.int .i64 x4_10.f0, .int .i64 x4_10.f1, .bool x4_10.f2, .bool x4_10.f3]) :: (39, .int .i64 y11_1) :: (38, .vec (x3_2).length 4 ((x3_2).flatMap e37)) :: (37, .bool false) :: E6)) (vidxH (sz := 4) e37_len (by kernel_rfl)) (fun _ => by kernel_rfl) (fun x4_10 hx4_10 => ?_)
     let E38 : Env := ((46, .bool (decide (x4_10.f1 ≤ y11_0))) :: (45, .bool (decide (x4_10.f1 ≤ y11_0))) :: (44, .bool (decide (x4_10.f1 ≤ y11_0))) :: (43, .int .i64 y11_0) :: (42, .int .i64 x4_10.f1) :: (41, .vptr [.int .i64 x4_10.f1, .bool x4_10.f2, .bool x4_10.f3]) :: (40, .vptr [.int .i64 x4_10.f0, .int .i64 x4_10.f1, .bool x4_10.f2, .bool x4_10.f3]) :: (39, .int .i64 y11_1) :: (38, .vec (x3_2).length 4 ((x3_2).flatMap e37)) :: (37, .bool false) :: E6)
     refine oR 6 (p' := (atN 17 (ctl1 g7p15))) (eE := E38) (H' := (mkH [])) (by kernel_rfl) ?_
     refine oS 46 (b := decide (x4_10.f1 ≤ y11_0)) (by kernel_rfl) (fun hb => ?_) (fun hb => ?_)
     ·let E39 : Env := ((55, .bool true) :: (54, .tuple []) :: (53, .tuple []) :: (52, .tuple []) :: (51, .tuple []) :: (50, .tuple []) :: (49, .tuple []) :: (48, .tuple []) :: (47, .tuple []) :: (46, .bool true) :: E38)
      refine oR 10 (p' := g7p17) (eE := E39) (H' := (mkH [])) (by kernel_rfl) ?_
      refine oK [3, 5, 6, 7, 55] (eE := [(3, .vec (x1_1.1).length 3 ((x1_1.1).flatMap e47)), (5, .int .i64 y11_0), (6, .vec (x3_2).length 4 ((x3_2).flatMap e37)), (7, .int .i64 y11_1), (55, .bool true)]) (by kernel_rfl) ?_
      exact hj12 (true, y11_0, y11_1)
     ·refine oR 2 (p' := (atN 19 (ctl1 g7p15))) (eE := ((48, .int .i64 y11_1) :: (47, .vec (x3_2).length 4 ((x3_2).flatMap e37)) :: (46, .bool false) :: E38)) (H' := (mkH [])) (by kernel_rfl) ?_
      refine oH (fun (x4_19 : S36) => (.vptr [.int .i64 x4_19.f0, .int .i64 x4_19.f1, .bool x4_19.f2, .bool x4_19.f3], (mkH []))) (atN 20 (ctl1 g7p15)) (fun x4_19 => ((49, .vptr [.int .i64 x4_19.f0, .int .i64 x4_19.f1, .bool x4_19.f2, .bool x4_19.f3]) :: (48, .int .i64 y11_1) :: (47, .vec (x3_2).length 4 ((x3_2).flatMap e37)) :: (46, .bool false) :: E38)) (vidxH (sz := 4) e37_len (by kernel_rfl)) (fun _ => by kernel_rfl) (fun x4_19 hx4_19 => ?_)
      let E40 : Env := ((55, .bool (decide ((x1_1.1.length : Int) < x4_19.f1))) :: (54, .bool (decide ((x1_1.1.length : Int) < x4_19.f1))) :: (53, .int .i64 (x1_1.1.length : Int)) :: (52, .vec (x1_1.1).length 3 ((x1_1.1).flatMap e47)) :: (51, .int .i64 x4_19.f1) :: (50, .vptr [.int .i64 x4_19.f1, .bool x4_19.f2, .bool x4_19.f3]) :: (49, .vptr [.int .i64 x4_19.f0, .int .i64 x4_19.f1, .bool x4_19.f2, .bool x4_19.f3]) :: (48, .int .i64 y11_1) :: (47, .vec (x3_2).length 4 ((x3_2).flatMap e37)) :: (46, .bool false) :: E38)
      refine oR 7 (p' := g7p17) (eE := E40) (H' := (mkH [])) (by kernel_rfl) ?_
      refine oK [3, 5, 6, 7, 55] (eE := [(3, .vec (x1_1.1).length 3 ((x1_1.1).flatMap e47)), (5, .int .i64 y11_0), (6, .vec (x3_2).length 4 ((x3_2).flatMap e37)), (7, .int .i64 y11_1), (55, .bool (decide ((x1_1.1.length : Int) < x4_19.f1)))]) (by kernel_rfl) ?_
      exact hj12 (decide ((x1_1.1.length : Int) < x4_19.f1), y11_0, y11_1)
  ·refine oR 4 (p' := (atN 0 (ctl1 g7p16))) (eE := ((27, .bool false) :: E5)) (H' := (mkH [])) (by kernel_rfl) ?_
   refine oC (fun (x5_0 : Bool) => .bool x5_0) (atN 1 (ctl1 g7p16)) (fun x5_0 => ((136, .bool x5_0) :: (27, .bool false) :: E5)) (fi := 27) (args := []) (by kernel_rfl) (by kernel_rfl) (fun _ => by kernel_rfl) (fun r h => g27_ok k  r h) (fun _ => by kernel_rfl) (fun x5_0 hx5_0 => ?_)
   refine oR 1 (p' := (atN 2 (ctl1 g7p16))) (eE := ((137, .bool x5_0) :: (136, .bool x5_0) :: (27, .bool false) :: E5)) (H' := (mkH [])) (by kernel_rfl) ?_
   refine oS 137 (b := x5_0) (by kernel_rfl) (fun hb => ?_) (fun hb => ?_)
   ·let E41 : Env := ((2, .bool (decide (y11_0 = (x1_1.1.length : Int)))) :: (142, .bool (decide (y11_0 = (x1_1.1.length : Int)))) :: (141, .bool (decide (y11_0 = (x1_1.1.length : Int)))) :: (140, .int .i64 (x1_1.1.length : Int)) :: (139, .vec (x1_1.1).length 3 ((x1_1.1).flatMap e47)) :: (138, .int .i64 y11_0) :: (137, .bool true) :: (137, .bool x5_0) :: (136, .bool x5_0) :: (27, .bool false) :: E5)
    refine oR 8 (p' := .fin) (eE := E41) (H' := (mkH [])) (by kernel_rfl) ?_
    exact oT (r := (decide (y11_0 = (x1_1.1.length : Int)))) (xs := [.bool (decide (y11_0 = (x1_1.1.length : Int)))]) (v := .bool (decide (y11_0 = (x1_1.1.length : Int)))) (by kernel_rfl) (by kernel_rfl) (by kernel_rfl) (.pures (by kernel_rfl)) (by kernel_rfl)
   ·let E42 : Env := ((2, .bool false) :: (142, .bool false) :: (141, .tuple []) :: (140, .tuple []) :: (139, .tuple []) :: (138, .tuple []) :: (137, .bool false) :: (137, .bool x5_0) :: (136, .bool x5_0) :: (27, .bool false) :: E5)
    refine oR 8 (p' := .fin) (eE := E42) (H' := (mkH [])) (by kernel_rfl) ?_
    exact oT (r := false) (xs := [.bool false]) (v := .bool false) (by kernel_rfl) (by kernel_rfl) (by kernel_rfl) (.pures (by kernel_rfl)) (by kernel_rfl)
def g7 (k : Nat) (a0 : (List Nat)) : Option Bool :=
 if (decide (1000 < (a0.length : Int))) then ((g27 k).bind fun x0_0 => some x0_0) else ((g28 k a0).bind fun x1_1 => if (!decide (x1_1.2 = 0)) then ((g27 k).bind fun x2_0 => some x2_0) else ((g29 k a0 x1_1.1).bind fun x3_2 => g7_l11 k x1_1 x3_2 k 0 0))
theorem g7_ok (k : Nat) (a0 : (List Nat)) (r : Bool) (h : g7 k a0 = some r) : PureOk Try.prog 7 [.str a0] (.bool r) := by
 refine pure_of X7 (fun _ => rfl) Try.func7 (by decide +kernel) (by kernel_rfl) (t := g7 k a0) ?_ h
 unfold g7
 refine oE (eE := [(0, .str a0)]) (by kernel_rfl) ?_
 let E1 : Env := [(11, .bool (decide (1000 < (a0.length : Int)))), (10, .int .i64 (a0.length : Int)), (9, .str a0), (2, .bool false), (0, .str a0)]
 refine oR 11 (p' := g7p2) (eE := E1) (H' := (mkH [])) (by kernel_rfl) ?_
 refine oS 11 (b := decide (1000 < (a0.length : Int))) (by kernel_rfl) (fun hb => ?_) (fun hb => ?_)
 ·refine oR 3 (p' := (atN 0 (ctl1 g7p3))) (eE := ((11, .bool true) :: E1)) (H' := (mkH [])) (by kernel_rfl) ?_
  refine oC (fun (x0_0 : Bool) => .bool x0_0) (atN 1 (ctl1 g7p3)) (fun x0_0 => ((12, .bool x0_0) :: (11, .bool true) :: E1)) (fi := 27) (args := []) (by kernel_rfl) (by kernel_rfl) (fun _ => by kernel_rfl) (fun r h => g27_ok k  r h) (fun _ => by kernel_rfl) (fun x0_0 hx0_0 => ?_)
  refine oR 3 (p' := .fin) (eE := ((2, .bool x0_0) :: (12, .bool x0_0) :: (11, .bool true) :: E1)) (H' := (mkH [])) (by kernel_rfl) ?_
  exact oT (r := x0_0) (xs := [.bool x0_0]) (v := .bool x0_0) (by kernel_rfl) (by kernel_rfl) (by kernel_rfl) (.pures (by kernel_rfl)) (by kernel_rfl)
 ·refine oR 5 (p' := (atN 1 (ctl1 g7p4))) (eE := ((14, .str a0) :: (11, .bool false) :: E1)) (H' := (mkH [])) (by kernel_rfl) ?_
  refine oC (fun (x1_1 : ((List S46) × Int)) => .tuple [.vec (x1_1.1).length 3 ((x1_1.1).flatMap e47), .int .i64 x1_1.2]) (atN 2 (ctl1 g7p4)) (fun x1_1 => ((15, .tuple [.vec (x1_1.1).length 3 ((x1_1.1).flatMap e47), .int .i64 x1_1.2]) :: (14, .str a0) :: (11, .bool false) :: E1)) (fi := 28) (args := [.str a0]) (by kernel_rfl) (by kernel_rfl) (fun _ => by kernel_rfl) (fun r h => g28_ok k a0 r h) (fun _ => by kernel_rfl) (fun x1_1 hx1_1 => ?_)
  let E2 : Env := ((4, .int .i64 x1_1.2) :: (3, .vec (x1_1.1).length 3 ((x1_1.1).flatMap e47)) :: (17, .int .i64 x1_1.2) :: (16, .vec (x1_1.1).length 3 ((x1_1.1).flatMap e47)) :: (13, .tuple [.vec (x1_1.1).length 3 ((x1_1.1).flatMap e47), .int .i64 x1_1.2]) :: (15, .tuple [.vec (x1_1.1).length 3 ((x1_1.1).flatMap e47), .int .i64 x1_1.2]) :: (14, .str a0) :: (11, .bool false) :: E1)
  refine oR 8 (p' := g7p6) (eE := E2) (H' := (mkH [])) (by kernel_rfl) ?_
  refine oK [0, 3, 4] (eE := [(0, .str a0), (3, .vec (x1_1.1).length 3 ((x1_1.1).flatMap e47)), (4, .int .i64 x1_1.2)]) (by kernel_rfl) ?_
  let E3 : Env := [(19, .bool (!decide (x1_1.2 = 0))), (18, .int .i64 x1_1.2), (0, .str a0), (3, .vec (x1_1.1).length 3 ((x1_1.1).flatMap e47)), (4, .int .i64 x1_1.2)]
  refine oR 4 (p' := g7p7) (eE := E3) (H' := (mkH [])) (by kernel_rfl) ?_
  refine oS 19 (b := !decide (x1_1.2 = 0)) (by kernel_rfl) (fun hb => ?_) (fun hb => ?_)
  ·refine oR 3 (p' := (atN 0 (ctl1 g7p8))) (eE := ((19, .bool true) :: E3)) (H' := (mkH [])) (by kernel_rfl) ?_
   refine oC (fun (x2_0 : Bool) => .bool x2_0) (atN 1 (ctl1 g7p8)) (fun x2_0 => ((20, .bool x2_0) :: (19, .bool true) :: E3)) (fi := 27) (args := []) (by kernel_rfl) (by kernel_rfl) (fun _ => by kernel_rfl) (fun r h => g27_ok k  r h) (fun _ => by kernel_rfl) (fun x2_0 hx2_0 => ?_)
   refine oR 3 (p' := .fin) (eE := ((2, .bool x2_0) :: (20, .bool x2_0) :: (19, .bool true) :: E3)) (H' := (mkH [])) (by kernel_rfl) ?_
   exact oT (r := x2_0) (xs := [.bool x2_0]) (v := .bool x2_0) (by kernel_rfl) (by kernel_rfl) (by kernel_rfl) (.pures (by kernel_rfl)) (by kernel_rfl)
  ·refine oR 10 (p' := (atN 2 (ctl1 g7p10))) (eE := ((22, .vec (x1_1.1).length 3 ((x1_1.1).flatMap e47)) :: (21, .str a0) :: (5, .int .i64 0) :: (19, .bool false) :: E3)) (H' := (mkH [])) (by kernel_rfl) ?_
   refine oC (fun (x3_2 : (List S36)) => .vec (x3_2).length 4 ((x3_2).flatMap e37)) (atN 3 (ctl1 g7p10)) (fun x3_2 => ((23, .vec (x3_2).length 4 ((x3_2).flatMap e37)) :: (22, .vec (x1_1.1).length 3 ((x1_1.1).flatMap e47)) :: (21, .str a0) :: (5, .int .i64 0) :: (19, .bool false) :: E3)) (fi := 29) (args := [.str a0, .vec (x1_1.1).length 3 ((x1_1.1).flatMap e47)]) (by kernel_rfl) (by kernel_rfl) (fun _ => by kernel_rfl) (fun r h => g29_ok k a0 x1_1.1 r h) (fun _ => by kernel_rfl) (fun x3_2 hx3_2 => ?_)
   let E4 : Env := ((6, .vec (x3_2).length 4 ((x3_2).flatMap e37)) :: (23, .vec (x3_2).length 4 ((x3_2).flatMap e37)) :: (22, .vec (x1_1.1).length 3 ((x1_1.1).flatMap e47)) :: (21, .str a0) :: (5, .int .i64 0) :: (19, .bool false) :: E3)
   refine oR 4 (p' := g7p11) (eE := E4) (H' := (mkH [])) (by kernel_rfl) ?_
   refine oK [3, 5, 6] (eE := [(3, .vec (x1_1.1).length 3 ((x1_1.1).flatMap e47)), (5, .int .i64 0), (6, .vec (x3_2).length 4 ((x3_2).flatMap e37))]) (by kernel_rfl) ?_
   refine oR 5 (p' := g7p12) (eE := [(7, .int .i64 0), (3, .vec (x1_1.1).length 3 ((x1_1.1).flatMap e47)), (5, .int .i64 0), (6, .vec (x3_2).length 4 ((x3_2).flatMap e37))]) (H' := (mkH [])) (by kernel_rfl) ?_
   refine oK [3, 5, 6, 7] (eE := [(3, .vec (x1_1.1).length 3 ((x1_1.1).flatMap e47)), (5, .int .i64 0), (6, .vec (x3_2).length 4 ((x3_2).flatMap e37)), (7, .int .i64 0)]) (by kernel_rfl) ?_
   exact (g7_l11_ok k x1_1 x3_2 k) 0 0
end
end Go.Proofs.Ytbmijiibfaacmaa.Am
set_option maxRecDepth 100000
set_option linter.unusedVariables false
set_option linter.unusedSimpArgs false
namespace Go.Proofs.Ytbmijiibfaacmaa.Am
open Go
theorem drop_stepL {α : Type} {s : List α} {i : Nat} {c : α} {r : List α} (h : s.drop i = c :: r) : s.drop (i + 1) = r := by
 rw [← List.drop_drop, h]; rfl
theorem drop_lenL {α : Type} {s : List α} {i : Nat} {c : α} {r : List α} (h : s.drop i = c :: r) : r.length + i + 1 = s.length := by
 have := congrArg List.length h
 rw [List.length_drop, List.length_cons] at this; omega
theorem told8 (k : Nat) : g27 (k + 60) = some true := by kernel_rfl
theorem frm_f : ∀ (r : List Nat) (k e : Nat), (frmN r k e = e ∨ (k + 1 ≤ frmN r k e ∧ ∃ x t, r.drop (frmN r k e - 1 - k) = x :: t ∧ x ≠ 11)) ∧ ∀ j x t, r.drop j = x :: t → k + j + 1 < frmN r k e → e ≤ k → x ≠ 10
 | [], k, e => by
  refine ⟨.inl rfl, ?_⟩
  intro j x t h; simp at h
 | c :: r, k, e => by
  obtain ⟨h1, h2⟩ := frm_f r (k + 1) (if c = 11 then e else k + 1)
  simp only [frmN]
  by_cases h10 : c = 10
  ·rw [if_pos h10, if_neg (by omega)]
   refine ⟨.inr ⟨Nat.le_refl _, c, r, ?_, by omega⟩, ?_⟩
   ·rw [show k + 1 - 1 - k = 0 by omega]; rfl
   ·intro j x t h h3; omega
  ·rw [if_neg h10]
   refine ⟨?_, ?_⟩
   ·rcases h1 with h1 | ⟨h1, x, t, h3, h4⟩
    ·by_cases h11 : c = 11
     ·rw [if_pos h11] at h1 ⊢
      exact .inl h1
     ·rw [if_neg h11] at h1 ⊢
      refine .inr ⟨by omega, c, r, ?_, h11⟩
      rw [h1, show k + 1 - 1 - k = 0 by omega]; rfl
    ·refine .inr ⟨by omega, x, t, ?_, h4⟩
     rw [show frmN r (k + 1) (if c = 11 then e else k + 1) - 1 - k = (frmN r (k + 1) (if c = 11 then e else k + 1) - 1 - (k + 1)) + 1 by omega, List.drop_succ_cons]
     exact h3
   ·intro j x t h h3 h4
    cases j with
    | zero => rw [List.drop_zero] at h; rw [← (List.cons.inj h).1]; exact h10
    | succ j =>
     rw [List.drop_succ_cons] at h
     exact h2 j x t h (by omega) (by split <;> omega)
theorem frm_form {c : Nat} (r : List Nat) (i : Nat) (h : c ≠ 11) : (∃ x t, (c :: r).drop (frmN (c :: r) i (i + 1) - 1 - i) = x :: t ∧ x ≠ 11) ∧ ∀ j x t, (c :: r).drop j = x :: t → i + j + 1 < frmN (c :: r) i (i + 1) → x ≠ 10 := by
 obtain ⟨h1, h2⟩ := frm_f r (i + 1) (i + 1)
 simp only [frmN, if_neg h]
 by_cases h10 : c = 10
 ·rw [if_pos h10]
  refine ⟨⟨c, r, by rw [show i + 1 - 1 - i = 0 by omega]; rfl, h⟩, ?_⟩
  intro j x t _ h3; omega
 ·rw [if_neg h10]
  refine ⟨?_, ?_⟩
  ·rcases h1 with h1 | ⟨h1, x, t, h3, h4⟩
   ·exact ⟨c, r, by rw [h1, show i + 1 - 1 - i = 0 by omega]; rfl, h⟩
   ·refine ⟨x, t, ?_, h4⟩
    rw [show frmN r (i + 1) (i + 1) - 1 - i = (frmN r (i + 1) (i + 1) - 1 - (i + 1)) + 1 by omega, List.drop_succ_cons]
    exact h3
  ·intro j x t hj h3
   cases j with
   | zero => rw [List.drop_zero] at hj; rw [← (List.cons.inj hj).1]; exact h10
   | succ j =>
    rw [List.drop_succ_cons] at hj
    exact h2 j x t hj (by omega) (by omega)
theorem whole_2 (k : Nat) (c11 : Int → Int → Option Bool) (L : List S46) (er : Int) (X : List S36) (u v : Int) {a e : Nat} {nt b : Bool} {i : Nat} (hi : i < 3000) (hx : nthL X (i : Int) = some (itm (a, e, nt, b))) (he : 1 ≤ e) (he2 : e < 3000) (hd : ∀ j : Nat, a ≤ j → j + 1 < e → ∃ y, nthL L (j : Int) = some y ∧ y.f0 ≠ 10) (hl : nt = false → ∃ y, nthL L ((e - 1 : Nat) : Int) = some y ∧ y.f0 ≠ 11) :
 ∀ (d j f : Nat), a ≤ j → j + d = e - 1 → d < f → g7_l14 k c11 (L, er) X u v f (j : Int) (i : Int) = c11 (e : Int) ((i + 1 : Nat) : Int)
 | d, j, 0, ha, hj, hf => by omega
 | 0, j, f + 1, ha, hj, hf => by
  rw [g7_l14_s]
  refine bS (by (try simp (disch := omega) only [fwI]); exact hx) ?_
  refine (jS (v := (i : Int)) (fun t => ?_)).trans ?_
  ·refine iF (dF ?_) rfl
   show ¬ (j : Int) < fW .i64 ((e : Int) - 1)
   rw [fwI (by omega) (by omega)]; omega
  ·refine bS (by (try simp (disch := omega) only [fwI]); exact hx) ?_
   refine (jS (v := (false, (i : Int))) (fun t => ?_)).trans ?_
   ·cases nt with
    | true => exact iF rfl rfl
    | false =>
     refine iT rfl ?_
     refine bS (by (try simp (disch := omega) only [fwI]); exact hx) ?_
     obtain ⟨y, h1, h2⟩ := hl rfl
     rw [show fW .i64 ((itm (a, e, false, b)).f1 - 1) = ((e - 1 : Nat) : Int) from by
      show fW .i64 ((e : Int) - 1) = _
      rw [fwI (by omega) (by omega)]; omega]
     refine bS (by (try simp (disch := omega) only [fwI]); exact h1) ?_
     rw [dF h2]
   ·refine iF rfl ?_
    refine bS (by (try simp (disch := omega) only [fwI]); exact hx) ?_
    rw [fw_s (by omega)]
    rfl
 | d + 1, j, f + 1, ha, hj, hf => by
  obtain ⟨y, h1, h2⟩ := hd j ha (by omega)
  have ih := whole_2 k c11 L er X u v hi hx he he2 hd hl d (j + 1) f (by omega) (by omega) (by omega)
  rw [g7_l14_s]
  refine bS (by (try simp (disch := omega) only [fwI]); exact hx) ?_
  refine (jC (r := g7_l14 k c11 (L, er) X u v f ((j + 1 : Nat) : Int) (i : Int)) (fun t => ?_)).trans ih
  refine iT (dT ?_) ?_
  ·show (j : Int) < fW .i64 ((e : Int) - 1)
   rw [fwI (by omega) (by omega)]; omega
  ·refine bS (by (try simp (disch := omega) only [fwI]); exact h1) ?_
   refine iF (dF h2) ?_
   rw [fw_s (by omega)]
theorem whole_1 (k : Nat) (hk : 2900 ≤ k) {s : List Nat} {l : List (Nat × Nat × Nat)} (cl : l.length ≤ 1000) (er : Int) (X : List S36) (hX : X.length ≤ 1000) (bl : Nat → Bool) : ∀ (f a i q : Nat) (r : List Nat), (kindsN l).drop a = r → r.length ≤ f → a ≤ l.length → i ≤ a → X.drop i = (splN bl f r a).map itm → f < q →
 g7_l11 (k + 60) (l.map (mkTok s), er) X q (a : Int) (i : Int) = some true
 | f, a, i, q, [], hr, hf, ha, hi, hx, hq => by
  obtain ⟨q, rfl⟩ : ∃ p, q = p + 1 := ⟨q - 1, by omega⟩
  have he := kinds_end hr
  have hx0 : X.drop i = [] := by rw [hx]; cases f <;> rfl
  have := List.drop_eq_nil_iff.1 hx0
  rw [g7_l11_s]
  refine iF (dF (by omega)) ?_
  refine bS (by (try simp (disch := omega) only [fwI]); exact told8 k) ?_
  refine iT rfl ?_
  rw [dT]
  rw [List.length_map]; omega
 | 0, a, i, q, c :: r, hr, hf, ha, hi, hx, hq => by simp at hf
 | f + 1, a, i, q, c :: r, hr, hf, ha, hi, hx, hq => by
  obtain ⟨q, rfl⟩ : ∃ p, q = p + 1 := ⟨q - 1, by omega⟩
  obtain ⟨y, hy, hc, hal⟩ := kinds_at (s := s) hr
  have rl : r.length + a + 1 = l.length := by have := drop_len hr; rw [kindsN, List.length_map] at this; exact this
  simp only [List.length_cons] at hf
  have fx : (mkTok s y).f0 = (c : Int) := by rw [← hc]; rfl
  have ll : (l.map (mkTok s)).length = l.length := List.length_map _
  simp only [splN] at hx
  have hdz : ∀ z, a ≤ z → (kindsN l).drop z = (c :: r).drop (z - a) := fun z hz => by rw [← hr, List.drop_drop]; congr 1; omega
  rw [g7_l11_s]
  by_cases h11 : c = 11
  ·rw [if_pos h11, List.map_cons] at hx
   have hn := nthL_at hx
   have hxl := drop_lenL hx
   have ih := whole_1 k hk (s := s) cl er X hX bl f (a + 1) (i + 1) q r (drop_step hr) (by omega) (by omega) (by omega) (drop_stepL hx) (by omega)
   refine iT (dT (by omega)) ?_
   refine bS (by (try simp (disch := omega) only [fwI]); exact hn) ?_
   refine (jS (v := (false, (a : Int), (i : Int))) (fun t => ?_)).trans ?_
   ·refine iF (by rw [dT (by rfl)]; rfl) ?_
    refine bS (by (try simp (disch := omega) only [fwI]); exact hn) ?_
    refine iF (dF (show ¬ (((a + 1 : Nat) : Int)) ≤ (a : Int) by omega)) ?_
    refine bS (by (try simp (disch := omega) only [fwI]); exact hn) ?_
    rw [dF]
    show ¬ ((l.map (mkTok s)).length : Int) < ((a + 1 : Nat) : Int)
    omega
   ·refine iF rfl ?_
    refine bS (by (try simp (disch := omega) only [fwI]); exact hn) ?_
    refine (jS (v := (false, (a : Int), (i : Int))) (fun t => ?_)).trans ?_
    ·refine iT rfl ?_
     refine bS (by (try simp (disch := omega) only [fwI]); exact hn) ?_
     refine iF (by rw [show fW .i64 (((false, (a : Int), (i : Int)) : Bool × Int × Int).2.1 + 1) = ((a + 1 : Nat) : Int) from fw_s (by omega), dT (by rfl)]; rfl) ?_
     refine bS (by (try simp (disch := omega) only [fwI]); exact hy) ?_
     refine iF (by rw [dT (by rw [fx]; omega)]; rfl) ?_
     refine bS (by (try simp (disch := omega) only [fwI]); exact hn) ?_
     exact iF rfl rfl
    ·refine iF rfl ?_
     refine (whole_2 (k + 60) _ _ er X (a : Int) (i : Int) (i := i) (by omega) hn (by omega) (by omega) (fun j h1 h2 => by omega) (fun h => by cases h) 0 a (k + 60) (Nat.le_refl _) (by omega) (by omega)).trans ?_
     exact ih
  ·rw [if_neg h11, List.map_cons] at hx
   have b := frm_bnd r a h11
   obtain ⟨⟨z, t, fl1, fl2⟩, fd⟩ := frm_form r a h11
   generalize frmN (c :: r) a (a + 1) = e at *
   have hn := nthL_at hx
   have hxl := drop_lenL hx
   have ih := whole_1 k hk (s := s) cl er X hX bl f e (i + 1) q ((c :: r).drop (e - a)) (hdz e (by omega)) (by simp only [List.length_drop, List.length_cons]; omega) (by omega) (by omega) (drop_stepL hx) (by omega)
   refine iT (dT (by omega)) ?_
   refine bS (by (try simp (disch := omega) only [fwI]); exact hn) ?_
   refine (jS (v := (false, (a : Int), (i : Int))) (fun t => ?_)).trans ?_
   ·refine iF (by rw [dT (by rfl)]; rfl) ?_
    refine bS (by (try simp (disch := omega) only [fwI]); exact hn) ?_
    refine iF (dF (show ¬ (e : Int) ≤ (a : Int) by omega)) ?_
    refine bS (by (try simp (disch := omega) only [fwI]); exact hn) ?_
    rw [dF]
    show ¬ ((l.map (mkTok s)).length : Int) < (e : Int)
    omega
   ·refine iF rfl ?_
    refine bS (by (try simp (disch := omega) only [fwI]); exact hn) ?_
    refine (jS (v := (false, (a : Int), (i : Int))) (fun t => ?_)).trans ?_
    ·refine iF rfl ?_
     refine bS (by (try simp (disch := omega) only [fwI]); exact hn) ?_
     refine iT rfl ?_
     refine bS (by (try simp (disch := omega) only [fwI]); exact hy) ?_
     rw [dF (by rw [fx]; omega)]
    ·refine iF rfl ?_
     refine (whole_2 (k + 60) _ _ er X (a : Int) (i : Int) (i := i) (by omega) hn (by omega) (by omega) ?_ ?_ (e - 1 - a) a (k + 60) (Nat.le_refl _) (by omega) (by omega)).trans ?_
     ·intro j h1 h2
      obtain ⟨x, r', hx', -, -, -⟩ := dconsL (s := kindsN l) (i := j) (by rw [kindsN, List.length_map]; omega)
      obtain ⟨y', hy', hc', -⟩ := kinds_at (s := s) hx'
      refine ⟨_, hy', ?_⟩
      have := fd (j - a) x r' (by rw [← hdz j h1]; exact hx') (by omega)
      show ((y'.1 : Nat) : Int) ≠ 10
      omega
     ·intro _
      rw [← hdz (e - 1) (by omega)] at fl1
      obtain ⟨y', hy', hc', -⟩ := kinds_at (s := s) fl1
      refine ⟨_, hy', ?_⟩
      show ((y'.1 : Nat) : Int) ≠ 11
      omega
     ·exact ih
theorem splitWhole_true (s : List Nat) (hs : ∀ b ∈ s, b < 256) (hl : s.length ≤ 140737488351232) : ∃ k, g7 k s = some true := by
 refine ⟨s.length + 70000 + 60, ?_⟩
 unfold g7
 by_cases h : 1000 < s.length
 ·refine iT (dT (by omega)) ?_
  refine bS (by (try simp (disch := omega) only [fwI]); exact told8 (s.length + 70000)) ?_
  rfl
 ·refine iF (dF (by omega)) ?_
  refine bS (by (try simp (disch := omega) only [fwI]); exact rscan_at (k := s.length + 70000 + 60) (by omega) hs hl) ?_
  by_cases h0 : (scanN s).2 = 0
  ·obtain ⟨l, ht, hsc, -, -⟩ := scan_ok h0
   have cl : l.length ≤ s.length := toks_len s (s.length + 1) 0 l ((toks_iff s (s.length + 1) 0 l (by omega)).2 ht) (Nat.zero_le _)
   refine iF (by rw [dT h0]; rfl) ?_
   rw [hsc]
   refine bS (by (try simp (disch := omega) only [fwI]); exact split_at (k := s.length + 70000 + 60) (by omega) (by omega) ht) ?_
   have hlen := splN_len (blkF s l) l.length (kindsN l) 0
   have kl : (kindsN l).length = l.length := List.length_map _
   rw [splN_fuel (blkF s l) _ l.length (kindsN l) 0 (by omega) (by omega)]
   exact whole_1 (s.length + 70000) (by omega) (by omega) 0 _ (by rw [List.length_map]; omega) (blkF s l) l.length 0 0 _ (kindsN l) rfl (by omega) (Nat.zero_le _) (Nat.zero_le _) rfl (by omega)
  ·refine iT (by rw [dF h0]; rfl) ?_
   refine bS (by (try simp (disch := omega) only [fwI]); exact told8 (s.length + 70000)) ?_
   rfl
end Go.Proofs.Ytbmijiibfaacmaa.Am
set_option linter.unusedVariables false
set_option linter.unusedSimpArgs false
namespace Go.Proofs.Ytbmijiibfaacmaa.Am
open Go
theorem splitWhole_walk (a0 : ByteArray) (W : World) (w0 : a0.size ≤ 140737488351232) : Calls Try.prog 7 #[.string a0] W fun e W' => e = .returned (.bool true) ∧ RowKit.Below W.heap.size W W' := by
 obtain ⟨k, h⟩ := splitWhole_true (a0.data.toList.map (·.toNat)) (bytes_lt a0) (by simpa using w0)
 exact law_walk (g7_ok k (a0.data.toList.map (·.toNat)) true h) (by simp only [VRs, VR]; exact ⟨_, _, rfl, ⟨a0, rfl, rfl⟩, rfl⟩) W
end Go.Proofs.Ytbmijiibfaacmaa.Am
namespace Go.Proofs.Ytbmijiibfaacmaa.splitWhole
open Go.ChangeShapes Go.WideShapes Go.ChangeAt Go.RowKit
open Go.ChangeMaps (open_string shut_string)
set_option linter.unusedVariables false
theorem own : ownKnob Try.prog.godebug = none := by kernel_rfl
set_option maxRecDepth 100000 in
theorem lifted (os : Os) (started : os.Started) (H : Type) (enc : TypeId × Value → H) :
 ReturnsInHanded {} Try.checked os 7 .any (Rows.splitWholeSpec.pre6 enc Try.prog Try.f7 Rows.splitWholeRow.domain false) (Rows.splitWholeSpec.post enc Try.prog Try.f7 false true false false) := by
 refine returnsInHanded_of_change_sized (C := Try.checked) own started (by kernel_rfl) Try.func7
  (ChangeSpec.witness6 (enc := enc) (C := Try.checked) false ⟨#[], #[.string ByteArray.empty], []⟩ 8 (by kernel_rfl) (by kernel_rfl) (by kernel_rfl) (by kernel_rfl)) ?_
 intro W base args ds gs before hval0 hW hcnd hsz0 _
 have hsz : (DataW.weightsEach Try.prog (Try.f7.params.toList ++ Rows.splitWholeSpec.plain.varTypes Try.prog) (ds ++ gs)).all (· ≤ reachBytes) = true := hsz0
 have hval : ∀ (j : Nat) t v, Try.f7.params[j]? = some t → args[j]? = some v → Value.okWide Try.prog W .any base t v := hval0
 have hW' := hW
 obtain ⟨p, q, hA0, hV, rfl, hfz, hnd⟩ := hW
 have hA : DataW.TrodAll enc Try.prog W 0 (fun _ => true) true Try.f7.params.toList args.toList ds p := hA0
 rw [Try.params7] at hA hval hsz
 obtain ⟨v0, vs0, d0, ds0, p0, q0, hargs, rfl, rfl, h0, r0⟩ := trodAll_cons hA
 obtain ⟨rfl, rfl, rfl⟩ := trodAll_nil r0
 obtain rfl : args = #[v0] := by cases args; simp_all
 obtain ⟨rfl, rfl⟩ := trodVars_none hV
 obtain ⟨a0, rfl, rfl, rfl, y0⟩ := open_string Try.underlying9 (hval 0 9 v0 rfl rfl) h0
 have w0 : a0.size ≤ 140737488351232 := by
  have z := sized_string hsz (j := 0) (t := 9) rfl rfl
  rw [Array.length_toList] at z
  exact z
 clear hA0 hval0 hsz0 hsz
 refine (Am.splitWhole_walk a0 W w0).mono fun e W' ⟨he, bel⟩ => ?_
 subst he
 exact ⟨_, rfl, _, _, _, [], _, [], hW', trodAll_mk1 (shut_bool Try.underlying4 _), (trodAll_cons_mk (shut_string Try.underlying9 y0) trodAll_mk0), rfl, bel.frame _, fun h => by cases h⟩
theorem over : Rows.splitWholeRow.holds Try.pinned (OpenSpec.ofChange Rows.splitWholeSpec) :=
 OpenClaim.holds_of_wide 7 Try.f7 rfl rfl rfl rfl rfl rfl rfl ⟨rfl, rfl, rfl, rfl, rfl⟩ rfl rfl rfl rfl rfl (by kernel_rfl) Try.func7 (by kernel_rfl)
  (of_decide_eq_true (by kernel_rfl)) (by unfold Func.isWrapper; first | (rw [if_pos (by decide +kernel)]; kernel_rfl) | (rw [if_neg (by decide +kernel)]; exact ⟨rfl, rfl⟩))
  (fun os started H enc _ => lifted os started H enc)
theorem proved : Rows.SplitWholeSaid := over
#print axioms proved
end Go.Proofs.Ytbmijiibfaacmaa.splitWhole
namespace Go.Proofs.Ytbmijiibfaacmaa
theorem splitWhole_holds : Rows.SplitWholeSaid := splitWhole.proved
end Go.Proofs.Ytbmijiibfaacmaa
