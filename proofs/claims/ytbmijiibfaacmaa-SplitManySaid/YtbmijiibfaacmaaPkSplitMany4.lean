/- LawSplitMany, part 4: whatever the input, the law comes out true: our texts, joined by a tool, without what the claim does not name. -/
import Derived.Test.YtbmijiibfaacmaaPkSplitMany3
import Derived.SizedLaws
import Derived.ChangeSlices
import Derived.Below
import Derived.Test.YtbmijiibfaacmaaRows
import Derived.WalkKit
import Derived.ProofKit
import Derived.OpenShut
import Derived.ShutString
import Derived.ChangeOld
set_option maxRecDepth 100000
set_option linter.unusedVariables false
set_option linter.unusedSimpArgs false
namespace Go.Proofs.Ytbmijiibfaacmaa.Am
open Go
theorem rOne_at {k : Nat} {s : List Nat} (hk : s.length + 40 < k) (hs : By s) (hl : Sz s) {a : Nat} (ha : a < s.length) : g46 k s (a : Int) = some (oneAt s a) := by
 have hl' := hl
 unfold Sz at hl
 unfold g46 oneAt
 refine (jS (v := false) (fun j => by simp (disch := omega) only [↓reduceIte, ↓jn, gsL])).trans ?_
 refine iF rfl ?_
 obtain ⟨c, r, hc, hr, hm, hrl⟩ := dcons ha
 have c256 := hs c hm
 have nc := nthX (x := (a : Int)) rfl hc
 have ol := oneN_le (s.drop a)
 rw [List.length_drop] at ol
 refine bS (by (try simp (disch := omega) only [fwI]); exact nc) ?_
 by_cases h37 : c = 37
 ·subst h37
  refine iT rfl ?_
  have e : oneN (s.drop a) = (cmtN (s.drop a), 11) := by rw [hc]; rfl
  rw [e, if_neg (by rw [hc]; have := cmtN_pos r; show ¬ cmtN (37 :: r) = 0; omega)]
  exact rnote_l (by omega) hs hl' hc k a (by omega) (by omega) rfl (Nat.le_refl _)
 refine iF (dF (by omega)) ?_
 have out : ∀ (n kind : Nat), n ≤ s.length - a → (if decide ((n : Int) = 0) then some (tok0, (4 : Int)) else (subL s (some (a : Int)) (some (fW .i64 ((a : Int) + (n : Int))))).bind fun x14_6 => some ((⟨(kind : Int), x14_6, (a : Int)⟩ : S46), (0 : Int))) = some (if n = 0 then (tok0, 4) else (mkTok s (kind, a, n), 0)) := by
  intro n kind hn
  by_cases h0 : n = 0
  ·rw [if_pos h0]
   refine iT (dT (by omega)) rfl
  ·rw [if_neg h0]
   refine iF (dF (by omega)) ?_
   rw [fw_a (by omega) (by omega)]
   refine bS (by (try simp (disch := omega) only [fwI]); exact subMid (s := s) (i := a) (j := a + n) rfl rfl (by omega) (by omega)) ?_
   rw [List.drop_take, Nat.add_sub_cancel_left]; rfl
 have isD : ∀ _ : Unit, (∀ (j : Bool → Option (S46 × Int)), (if (decide ((c : Int) = 46)) then (if (decide (fW .i64 ((a : Int) + 1) = (s.length : Int))) then (j true) else ((nthS s (fW .i64 ((a : Int) + 1))).bind fun x1_12 => if (decide (x1_12 = 37)) then (j true) else ((g45 k s (fW .i64 ((a : Int) + 1))).bind fun x1_19 => j (decide (fW .i64 ((a : Int) + 1) < x1_19))))) else (j false)) = j (decide (c = 46) && dotN r)) := by
  intro _ j
  by_cases h46 : c = 46
  ·rw [decide_eq_true h46, Bool.true_and]
   refine iT (dT (by omega)) ?_
   rw [fw_s (by omega)]
   cases r with
   | nil =>
    simp only [List.length_nil] at hrl
    refine iT (dT (by omega)) rfl
   | cons d q =>
    simp only [List.length_cons] at hrl
    have nd := nthX (x := ((a + 1 : Nat) : Int)) rfl hr
    refine iF (dF (by omega)) ?_
    refine bS (by (try simp (disch := omega) only [fwI]); exact nd) ?_
    simp only [dotN]
    by_cases h37 : d = 37
    ·refine iT (dT (by omega)) ?_
     rw [decide_eq_true h37, Bool.or_true]
    ·refine iF (dF (by omega)) ?_
     have rb := rblank_at (k := k) (by omega) hs hl' (a := a + 1) (by omega)
     rw [hr] at rb
     refine bS (by (try simp (disch := omega) only [fwI]); exact rb) ?_
     rw [decide_eq_false h37, Bool.or_false]
     refine congrArg j ?_
     by_cases hb : blkN d = true
     ·have e : skipN (d :: q) = skipN q + 1 := by simp only [skipN, hb, if_true]
      rw [hb]; exact decide_eq_true (by omega)
     ·have e : skipN (d :: q) = 0 := by simp only [skipN, if_neg hb]
      rw [Bool.eq_false_iff.2 hb]; exact decide_eq_false (by omega)
  ·rw [decide_eq_false h46, Bool.false_and]
   refine iF (dF (by omega)) rfl
 have eo : oneN (s.drop a) = if c = 46 ∧ dotN r = true then (1, 10) else if c = 39 then (qtdN (s.drop a), 1) else if c = 34 then (qtdN (s.drop a), 6) else if c = 36 then (chrN (s.drop a), 5) else if c = 63 then (macN (s.drop a), 7)
  else if begN c = 3 then numN (s.drop a) else if begN c = 1 ∨ begN c = 2 then (innN (s.drop a), if rsvN ((s.drop a).take (innN (s.drop a))) then 8 else begN c) else (lngN (s.drop a), 9) := by
  rw [hc]; simp only [oneN]; rw [if_neg h37]
 refine (jS (v := decide (c = 46) && dotN r) (fun j => isD () j)).trans ?_
 clear isD
 have il := innN_le (s.drop a)
 rw [List.length_drop] at il
 by_cases h46 : c = 46 ∧ dotN r = true
 ·rw [if_pos h46] at eo
  rw [eo] at ol ⊢
  obtain ⟨h1, h2⟩ := h46
  rw [decide_eq_true h1, h2]
  refine (jS (v := (((10 : Nat) : Int), ((1 : Nat) : Int))) (fun j => iT (Bool.and_self true) (congrArg j (Prod.ext rfl rfl)))).trans ?_
  exact out 1 10 ol
 ·rw [if_neg h46] at eo
  have : (decide (c = 46) && dotN r) = false := by
   rw [Bool.and_eq_false_iff]
   by_cases h : c = 46
   ·right
    cases hd : dotN r with
    | true => exact absurd ⟨h, hd⟩ h46
    | false => rfl
   ·left; exact decide_eq_false h
  rw [this]
  have bg := begins_at58 k c256
  have nodig : (c = 39 ∨ c = 34 ∨ c = 36 ∨ c = 63) → begN c = 0 := by rintro (rfl | rfl | rfl | rfl) <;> decide
  by_cases h39 : c = 39
  ·rw [if_pos h39] at eo
   rw [eo] at ol ⊢
   subst h39
   refine (jS (v := (((1 : Nat) : Int), (qtdN (s.drop a) : Int))) (fun j => ?_)).trans ?_
   ·refine iF rfl ?_
    refine bS (by (try simp (disch := omega) only [fwI]); exact bg) ?_
    refine iF rfl ?_
    refine bS (by (try simp (disch := omega) only [fwI]); exact bg) ?_
    refine iF rfl ?_
    refine iT rfl ?_
    refine bS (by (try simp (disch := omega) only [fwI]); exact rquoted_at (by omega) hs hl' hc (.inl rfl)) ?_
    rfl
   ·exact out _ 1 ol
  rw [if_neg h39] at eo
  by_cases h34 : c = 34
  ·rw [if_pos h34] at eo
   rw [eo] at ol ⊢
   subst h34
   refine (jS (v := (((6 : Nat) : Int), (qtdN (s.drop a) : Int))) (fun j => ?_)).trans ?_
   ·refine iF rfl ?_
    refine bS (by (try simp (disch := omega) only [fwI]); exact bg) ?_
    refine iF rfl ?_
    refine bS (by (try simp (disch := omega) only [fwI]); exact bg) ?_
    refine iF rfl ?_
    refine iF rfl ?_
    refine iT rfl ?_
    refine bS (by (try simp (disch := omega) only [fwI]); exact rquoted_at (by omega) hs hl' hc (.inr rfl)) ?_
    rfl
   ·exact out _ 6 ol
  rw [if_neg h34] at eo
  by_cases h36 : c = 36
  ·rw [if_pos h36] at eo
   rw [eo] at ol ⊢
   subst h36
   refine (jS (v := (((5 : Nat) : Int), (chrN (s.drop a) : Int))) (fun j => ?_)).trans ?_
   ·refine iF rfl ?_
    refine bS (by (try simp (disch := omega) only [fwI]); exact bg) ?_
    refine iF rfl ?_
    refine bS (by (try simp (disch := omega) only [fwI]); exact bg) ?_
    refine iF rfl ?_
    refine iF rfl ?_
    refine iF rfl ?_
    refine iT rfl ?_
    refine bS (by (try simp (disch := omega) only [fwI]); exact rchar_at (by omega) hs hl' hc) ?_
    rfl
   ·exact out _ 5 ol
  rw [if_neg h36] at eo
  by_cases h63 : c = 63
  ·rw [if_pos h63] at eo
   rw [eo] at ol ⊢
   subst h63
   have mac : ∀ (n : Nat) (t : List Nat) (j : Int × Int → Option (S46 × Int)), a + n ≤ s.length → s.drop (a + n) = t →
    jn (fun (z23 : Bool) => if z23 then ((g60 k s ((a + n : Nat) : Int)).bind fun x13_2 => j (7, fW .i64 (x13_2 - (a : Int)))) else (j (0, 0))) (fun j23 => if (decide (((a + n : Nat) : Int) < (s.length : Int))) then ((nthS s ((a + n : Nat) : Int)).bind fun x12_7 => (g64 k x12_7).bind fun x12_8 => if x12_8 then (j23 true) else ((nthS s ((a + n : Nat) : Int)).bind fun x12_12 => j23 (decide (x12_12 = 95)))) else (j23 false)) = j (if macB t then (7, (mac1 n t : Int)) else (0, 0)) := by
    intro n t j hn ht
    rcases Nat.lt_or_ge (a + n) s.length with h | h
    ·obtain ⟨d, q, hd, hq, hdm, hql⟩ := dcons h
     rw [ht] at hd
     subst hd
     have nd := nthX (x := ((a + n : Nat) : Int)) rfl ht
     have lt := letter_at k (hs d hdm)
     have lb : (letN d || decide (d = 95)) = decide (begN d = 1 ∨ begN d = 2) := by
      have w := byteAll (f := fun d => (letN d || decide (d = 95)) == decide (begN d = 1 ∨ begN d = 2)) (by decide +kernel) (hs d hdm)
      exact eq_of_beq w
     refine (jS (v := decide (begN d = 1 ∨ begN d = 2)) (fun j23 => ?_)).trans ?_
     ·refine iT (dT (by omega)) ?_
      refine bS (by (try simp (disch := omega) only [fwI]); exact nd) ?_
      refine bS (by (try simp (disch := omega) only [fwI]); exact lt) ?_
      rw [← lb]
      cases letN d with
      | true => rfl
      | false =>
       refine iF rfl ?_
       refine bS (by (try simp (disch := omega) only [fwI]); exact nd) ?_
       rw [Bool.false_or]
       refine congrArg j23 ?_
       rw [Bool.eq_iff_iff]; simp; omega
     ·by_cases hb : begN d = 1 ∨ begN d = 2
      ·have mb : macB (d :: q) = true := decide_eq_true hb
       rw [decide_eq_true hb, mb]
       refine iT rfl ?_
       have ri := rinner_at (k := k) (by omega) hs hl' (a := a + n) hn
       rw [ht] at ri
       refine bS (by (try simp (disch := omega) only [fwI]); exact ri) ?_
       have il := innN_le (d :: q)
       simp only [List.length_cons] at il
       rw [fwI (by omega) (by omega)]
       simp only [mac1, if_pos hb, if_true]
       refine congrArg j (Prod.ext rfl ?_)
       show ((_ : Nat) : Int) - (a : Int) = ((_ : Nat) : Int)
       omega
      ·have mb : macB (d :: q) = false := decide_eq_false hb
       rw [decide_eq_false hb, mb]
       rfl
    ·rw [dnil h] at ht
     subst ht
     refine (jS (v := false) (fun j23 => ?_)).trans ?_
     ·refine iF (dF (by omega)) rfl
     ·rfl
   have fin : ∀ (n : Nat) (t : List Nat) (X : (Int × Int → Option (S46 × Int)) → Option (S46 × Int)), macN (s.drop a) = mac1 n t → (∀ j, X j = j (if macB t then (7, (mac1 n t : Int)) else (0, 0))) →
    jn (fun (z20 : Int × Int) => if (decide (z20.2 = 0)) then (some ((⟨(0 : Int), ([] : List Nat), (0 : Int)⟩ : S46), (4 : Int))) else ((subL s (some (a : Int)) (some (fW .i64 ((a : Int) + z20.2)))).bind fun x14_6 => some ((⟨z20.1, x14_6, (a : Int)⟩ : S46), (0 : Int)))) X = some (if (macN (s.drop a), 7).1 = 0 then (tok0, 4) else (mkTok s ((macN (s.drop a), 7).2, a, (macN (s.drop a), 7).1), 0)) := by
    intro n t X hm hX
    rw [hm] at ol ⊢
    cases h : macB t with
    | false =>
     rw [h] at hX
     have m0 : mac1 n t = 0 := by
      cases t with
      | nil => rfl
      | cons d q => simp only [mac1, if_neg (of_decide_eq_false h)]
     refine (jS hX).trans ?_
     rw [m0]; rfl
    | true =>
     rw [h] at hX
     refine (jS hX).trans ?_
     exact out _ 7 ol
   cases r with
   | nil =>
    simp only [List.length_nil] at hrl
    refine fin 1 [] _ (by rw [hc]; rfl) (fun j => ?_)
    refine iF rfl ?_
    refine bS (by (try simp (disch := omega) only [fwI]); exact bg) ?_
    refine iF rfl ?_
    refine bS (by (try simp (disch := omega) only [fwI]); exact bg) ?_
    refine iF rfl ?_
    refine iF rfl ?_
    refine iF rfl ?_
    refine iF rfl ?_
    refine iT rfl ?_
    refine (jS (v := false) (fun j => ?_)).trans ?_
    ·refine iF (dF (by rw [fw_s (by omega)]; omega)) rfl
    ·refine (jS (v := ((a + 1 : Nat) : Int)) (fun j => ?_)).trans ?_
     ·refine iF rfl ?_
      rw [fw_s (by omega)]
     ·exact mac 1 [] j (by omega) hr
   | cons d q =>
    simp only [List.length_cons] at hrl
    have nd := nthX (x := ((a + 1 : Nat) : Int)) rfl hr
    by_cases hd : d = 63
    ·refine fin 2 q _ (by rw [hc]; simp only [macN, hd, if_true]) (fun j => ?_)
     refine iF rfl ?_
     refine bS (by (try simp (disch := omega) only [fwI]); exact bg) ?_
     refine iF rfl ?_
     refine bS (by (try simp (disch := omega) only [fwI]); exact bg) ?_
     refine iF rfl ?_
     refine iF rfl ?_
     refine iF rfl ?_
     refine iF rfl ?_
     refine iT rfl ?_
     refine (jS (v := true) (fun j => ?_)).trans ?_
     ·rw [fw_s (by omega)]
      refine iT (dT (by omega)) ?_
      refine bS (by (try simp (disch := omega) only [fwI]); exact nd) ?_
      rw [dT (by omega)]
     ·refine (jS (v := ((a + 2 : Nat) : Int)) (fun j => ?_)).trans ?_
      ·refine iT rfl ?_
       rw [fw_s (by omega), fw_s (by omega)]
      ·exact mac 2 q j (by omega) (drop_step hr)
    ·refine fin 1 (d :: q) _ (by rw [hc]; simp only [macN, hd, if_false]) (fun j => ?_)
     refine iF rfl ?_
     refine bS (by (try simp (disch := omega) only [fwI]); exact bg) ?_
     refine iF rfl ?_
     refine bS (by (try simp (disch := omega) only [fwI]); exact bg) ?_
     refine iF rfl ?_
     refine iF rfl ?_
     refine iF rfl ?_
     refine iF rfl ?_
     refine iT rfl ?_
     refine (jS (v := false) (fun j => ?_)).trans ?_
     ·rw [fw_s (by omega)]
      refine iT (dT (by omega)) ?_
      refine bS (by (try simp (disch := omega) only [fwI]); exact nd) ?_
      rw [dF (by omega)]
     ·refine (jS (v := ((a + 1 : Nat) : Int)) (fun j => ?_)).trans ?_
      ·refine iF rfl ?_
       rw [fw_s (by omega)]
      ·exact mac 1 (d :: q) j (by omega) hr
  rw [if_neg h63] at eo
  by_cases h3 : begN c = 3
  ·rw [if_pos h3] at eo
   rw [eo] at ol ⊢
   refine jC fun j => ?_
   refine iF rfl ?_
   refine bS (by (try simp (disch := omega) only [fwI]); exact bg) ?_
   refine iT (dT (by omega)) ?_
   refine bS (by (try simp (disch := omega) only [fwI]); exact rnumber_at (by omega) hs hl' (a := a) (by omega)) ?_
   by_cases h0 : (numN (s.drop a)).1 = 0
   ·rw [if_pos h0]
   ·rw [if_neg h0]
  rw [if_neg h3] at eo
  by_cases h12 : begN c = 1 ∨ begN c = 2
  ·rw [if_pos h12] at eo
   rw [eo] at ol ⊢
   refine (jS (v := (((if rsvN ((s.drop a).take (innN (s.drop a))) then 8 else begN c : Nat) : Int), (innN (s.drop a) : Int))) (fun j => ?_)).trans ?_
   ·refine iF rfl ?_
    refine bS (by (try simp (disch := omega) only [fwI]); exact bg) ?_
    refine iF (dF (by omega)) ?_
    refine bS (by (try simp (disch := omega) only [fwI]); exact bg) ?_
    refine iT (dT (by omega)) ?_
    refine bS (by (try simp (disch := omega) only [fwI]); exact bg) ?_
    refine bS (by (try simp (disch := omega) only [fwI]); exact rinner_at (k := k) (by omega) hs hl' (a := a) (by omega)) ?_
    rw [fw_d (n := a + innN (s.drop a)) (m := a) (by omega) (by omega), Nat.add_sub_cancel_left, fw_a (by omega) (by omega)]
    refine bS (by (try simp (disch := omega) only [fwI]); exact subMid (s := s) (i := a) (j := a + innN (s.drop a)) rfl rfl (by omega) (by omega)) ?_
    rw [List.drop_take, Nat.add_sub_cancel_left]
    refine bS (by (try simp (disch := omega) only [fwI]); exact rreserved_at (by omega) _) ?_
    cases rsvN ((s.drop a).take (innN (s.drop a))) <;> rfl
   ·exact out _ _ il
  ·rw [if_neg h12] at eo
   rw [eo] at ol ⊢
   refine (jS (v := (((9 : Nat) : Int), (lngN (s.drop a) : Int))) (fun j => ?_)).trans ?_
   ·refine iF rfl ?_
    refine bS (by (try simp (disch := omega) only [fwI]); exact bg) ?_
    refine iF (dF (by omega)) ?_
    refine bS (by (try simp (disch := omega) only [fwI]); exact bg) ?_
    refine iF (dF (by have := begN_le c; omega)) ?_
    refine iF (dF (by omega)) ?_
    refine iF (dF (by omega)) ?_
    refine iF (dF (by omega)) ?_
    refine iF (dF (by omega)) ?_
    refine bS (by (try simp (disch := omega) only [fwI]); exact rlongest_at (k := k) (by omega) hl' (a := a) (by omega)) ?_
    rfl
   ·exact out _ 9 ol
end Go.Proofs.Ytbmijiibfaacmaa.Am
set_option maxRecDepth 100000
set_option linter.unusedVariables false
set_option linter.unusedSimpArgs false
namespace Go.Proofs.Ytbmijiibfaacmaa.Am
open Go
theorem rscan_l (k : Nat) {s : List Nat} (hk : s.length + 40 < k) (hs : By s) (hl : Sz s) (h16 : s.length ≤ 65536) : ∀ (d f a : Nat) (acc : List S46), s.length < a + d → d < f → a ≤ s.length → acc.length ≤ a → g28_l5 k s f ((a + skipN (s.drop a) : Nat) : Int) acc = some (match toksN s d a with | some l => (acc ++ l.map (mkTok s), 0) | none => ([], 4))
 | 0, f, a, acc, h, hf, ha, hacc => by omega
 | d + 1, f, a, acc, h, hf, ha, hacc => by
  have hl' := hl
  unfold Sz at hl
  obtain ⟨f, rfl⟩ : ∃ f', f = f' + 1 := ⟨f - 1, by omega⟩
  rw [g28_l5_s]
  have sl := skipN_le (s.drop a)
  rw [List.length_drop] at sl
  unfold toksN
  have hab : a ≤ a + skipN (s.drop a) := Nat.le_add_right _ _
  have hbl : a + skipN (s.drop a) ≤ s.length := by omega
  generalize a + skipN (s.drop a) = b at *
  by_cases hb : s.length ≤ b
  ·rw [if_pos hb]
   refine iF (dF (by omega)) ?_
   simp only [List.map_nil, List.append_nil]
  ·rw [if_neg hb]
   refine iT (dT (by omega)) ?_
   refine bS (by (try simp (disch := omega) only [fwI]); exact rOne_at hk hs hl' (a := b) (by omega)) ?_
   have ol := oneN_le (s.drop b)
   rw [List.length_drop] at ol
   unfold oneAt
   by_cases h0 : (oneN (s.drop b)).1 = 0
   ·rw [if_pos h0, if_pos h0]; rfl
   ·rw [if_neg h0, if_neg h0]
    refine iF rfl ?_
    have ap : appS 32 acc [mkTok s ((oneN (s.drop b)).2, b, (oneN (s.drop b)).1)] = some (acc ++ [mkTok s ((oneN (s.drop b)).2, b, (oneN (s.drop b)).1)]) := by
     unfold appS
     rw [if_pos (by simp only [List.length_cons, List.length_nil]; omega)]
    refine bS (by (try simp (disch := omega) only [fwI]); exact ap) ?_
    have tl : ((s.drop b).take (oneN (s.drop b)).1).length = (oneN (s.drop b)).1 := by
     rw [List.length_take, List.length_drop]; omega
    show (g45 k s (fW .i64 ((b : Int) + (((s.drop b).take (oneN (s.drop b)).1).length : Int)))).bind _ = _
    rw [tl, fw_a (by omega) (by omega)]
    have hpos : 0 < (oneN (s.drop b)).1 := Nat.pos_of_ne_zero h0
    refine bS (by (try simp (disch := omega) only [fwI]); exact rblank_at (by omega) hs hl' (a := b + (oneN (s.drop b)).1) (by omega)) ?_
    refine (rscan_l k hk hs hl' h16 d f (b + (oneN (s.drop b)).1) _ (by omega) (by omega) (by omega) (by rw [List.length_append]; simp only [List.length_cons, List.length_nil]; omega)).trans ?_
    cases toksN s d (b + (oneN (s.drop b)).1) with
    | none => rfl
    | some l => simp only [Option.map_some, List.map_cons, List.append_assoc, List.singleton_append]
theorem rscan_at {k : Nat} {s : List Nat} (hk : s.length + 40 < k) (hs : By s) (hl : Sz s) : g28 k s = some (scanN s) := by
 have hl' := hl
 unfold Sz at hl
 unfold g28 scanN
 by_cases h16 : 65536 < s.length
 ·rw [if_pos h16]
  refine iT (dT (by omega)) rfl
 ·rw [if_neg h16]
  refine iF (dF (by omega)) ?_
  refine bS (by (try simp (disch := omega) only [fwI]); exact valid_at44 (by omega) hs hl') ?_
  cases hv : vld s.length s with
  | false => rfl
  | true =>
   refine iF rfl ?_
   have rb := rblank_at (k := k) (by omega) hs hl' (a := 0) (by omega)
   refine bS (by (try simp (disch := omega) only [fwI]); exact rb) ?_
   refine (rscan_l k hk hs hl' (by omega) (s.length + 1) k 0 [] (by omega) (by omega) (by omega) (Nat.le_refl _)).trans ?_
   simp only [Bool.true_eq_false, if_false]
   cases toksN s (s.length + 1) 0 <;> rfl
end Go.Proofs.Ytbmijiibfaacmaa.Am
set_option maxRecDepth 100000
set_option linter.unusedVariables false
namespace Go.Proofs.Ytbmijiibfaacmaa.Am
noncomputable section
open Go
def X38 : Fx Int := ⟨Try.prog, cx, Try.f38, fun r => .int .i64 r, 0, fun _ => H0, cxTi, cxOrd⟩
def g38 (k : Nat) (a0 : S46) : Option Int :=
 some (fW .i64 (a0.f2 + (a0.f1.length : Int)))
theorem g38_ok (k : Nat) (a0 : S46) (r : Int) (h : g38 k a0 = some r) : PureOk Try.prog 38 [.agg [.int .i64 a0.f0, .str a0.f1, .int .i64 a0.f2]] (.int .i64 r) := by
 refine pure_of X38 (fun _ => rfl) Try.func38 (by decide +kernel) (by kernel_rfl) (t := g38 k a0) ?_ h
 unfold g38
 refine oE (eE := [(0, .agg [.int .i64 a0.f0, .str a0.f1, .int .i64 a0.f2])]) (by kernel_rfl) ?_
 let E1 : Env := [(2, .int .i64 (fW .i64 (a0.f2 + (a0.f1.length : Int)))), (8, .int .i64 (fW .i64 (a0.f2 + (a0.f1.length : Int)))), (7, .int .i64 (a0.f1.length : Int)), (6, .str a0.f1), (5, .ptr 0 3 1), (4, .int .i64 a0.f2), (3, .ptr 0 3 2), (2, .int .i64 0), (1, .ptr 0 3 0), (0, .agg [.int .i64 a0.f0, .str a0.f1, .int .i64 a0.f2])]
 refine oR 16 (p' := .fin) (eE := E1) (H' := (mkH [⟨[.int .i64 a0.f0, .str a0.f1, .int .i64 a0.f2], 0, false⟩])) (by kernel_rfl) ?_
 exact oT (r := (fW .i64 (a0.f2 + (a0.f1.length : Int)))) (xs := [.int .i64 (fW .i64 (a0.f2 + (a0.f1.length : Int)))]) (v := .int .i64 (fW .i64 (a0.f2 + (a0.f1.length : Int)))) (by kernel_rfl) (by kernel_rfl) (by kernel_rfl) (.pures (by kernel_rfl)) (by kernel_rfl)
end
end Go.Proofs.Ytbmijiibfaacmaa.Am
set_option maxRecDepth 100000
set_option linter.unusedVariables false
namespace Go.Proofs.Ytbmijiibfaacmaa.Am
noncomputable section
open Go
def X66 : Fx Bool := ⟨Try.prog, cx, Try.f66, fun r => .bool r, 0, fun _ => H0, cxTi, cxOrd⟩
def g66p0 : Pt := nav [0] (bodyAt Try.f66)
def g66p1 : Pt := nav [0, 0, 0] g66p0
def g66 (k : Nat) (a0 : (List Nat)) (a1 : S46) : Option Bool :=
 if (decide (0 ≤ a1.f2)) then (if (decide (a1.f2 ≤ (a0.length : Int))) then (some (decide ((a1.f1.length : Int) ≤ fW .i64 ((a0.length : Int) - a1.f2)))) else (some false)) else (some false)
theorem g66_ok (k : Nat) (a0 : (List Nat)) (a1 : S46) (r : Bool) (h : g66 k a0 a1 = some r) : PureOk Try.prog 66 [.str a0, .agg [.int .i64 a1.f0, .str a1.f1, .int .i64 a1.f2]] (.bool r) := by
 refine pure_of X66 (fun _ => rfl) Try.func66 (by decide +kernel) (by kernel_rfl) (t := g66 k a0 a1) ?_ h
 unfold g66
 refine oE (eE := [(0, .str a0), (1, .agg [.int .i64 a1.f0, .str a1.f1, .int .i64 a1.f2])]) (by kernel_rfl) ?_
 let E1 : Env := [(8, .bool (decide (0 ≤ a1.f2))), (7, .bool (decide (0 ≤ a1.f2))), (6, .int .i64 a1.f2), (5, .ptr 0 3 2), (4, .bool false), (3, .ptr 0 3 0), (0, .str a0), (1, .agg [.int .i64 a1.f0, .str a1.f1, .int .i64 a1.f2])]
 refine oR 11 (p' := (atN 4 (ctl1 g66p1))) (eE := E1) (H' := (mkH [⟨[.int .i64 a1.f0, .str a1.f1, .int .i64 a1.f2], 0, false⟩])) (by kernel_rfl) ?_
 refine oS 8 (b := decide (0 ≤ a1.f2)) (by kernel_rfl) (fun hb => ?_) (fun hb => ?_)
 ·let E2 : Env := ((15, .bool (decide (a1.f2 ≤ (a0.length : Int)))) :: (14, .bool (decide (a1.f2 ≤ (a0.length : Int)))) :: (13, .bool (decide (a1.f2 ≤ (a0.length : Int)))) :: (12, .int .i64 (a0.length : Int)) :: (11, .str a0) :: (10, .int .i64 a1.f2) :: (9, .ptr 0 3 2) :: (8, .bool true) :: E1)
  refine oR 7 (p' := (atN 11 (ctl1 g66p1))) (eE := E2) (H' := (mkH [⟨[.int .i64 a1.f0, .str a1.f1, .int .i64 a1.f2], 0, false⟩])) (by kernel_rfl) ?_
  refine oS 15 (b := decide (a1.f2 ≤ (a0.length : Int))) (by kernel_rfl) (fun hb => ?_) (fun hb => ?_)
  ·let E3 : Env := ((4, .bool (decide ((a1.f1.length : Int) ≤ fW .i64 ((a0.length : Int) - a1.f2)))) :: (25, .bool (decide ((a1.f1.length : Int) ≤ fW .i64 ((a0.length : Int) - a1.f2)))) :: (24, .bool (decide ((a1.f1.length : Int) ≤ fW .i64 ((a0.length : Int) - a1.f2)))) :: (23, .int .i64 (fW .i64 ((a0.length : Int) - a1.f2))) :: (22, .int .i64 a1.f2) :: (21, .ptr 0 3 2) :: (20, .int .i64 (a0.length : Int)) :: (19, .str a0) :: (18, .int .i64 (a1.f1.length : Int)) :: (17, .str a1.f1) :: (16, .ptr 0 3 1) :: (15, .bool true) :: E2)
   refine oR 13 (p' := .fin) (eE := E3) (H' := (mkH [⟨[.int .i64 a1.f0, .str a1.f1, .int .i64 a1.f2], 0, false⟩])) (by kernel_rfl) ?_
   exact oT (r := (decide ((a1.f1.length : Int) ≤ fW .i64 ((a0.length : Int) - a1.f2)))) (xs := [.bool (decide ((a1.f1.length : Int) ≤ fW .i64 ((a0.length : Int) - a1.f2)))]) (v := .bool (decide ((a1.f1.length : Int) ≤ fW .i64 ((a0.length : Int) - a1.f2)))) (by kernel_rfl) (by kernel_rfl) (by kernel_rfl) (.pures (by kernel_rfl)) (by kernel_rfl)
  ·let E4 : Env := ((4, .bool false) :: (25, .bool false) :: (24, .tuple []) :: (23, .tuple []) :: (22, .tuple []) :: (21, .tuple []) :: (20, .tuple []) :: (19, .tuple []) :: (18, .tuple []) :: (17, .tuple []) :: (16, .tuple []) :: (15, .bool false) :: E2)
   refine oR 13 (p' := .fin) (eE := E4) (H' := (mkH [⟨[.int .i64 a1.f0, .str a1.f1, .int .i64 a1.f2], 0, false⟩])) (by kernel_rfl) ?_
   exact oT (r := false) (xs := [.bool false]) (v := .bool false) (by kernel_rfl) (by kernel_rfl) (by kernel_rfl) (.pures (by kernel_rfl)) (by kernel_rfl)
 ·let E5 : Env := ((4, .bool false) :: (25, .bool false) :: (24, .tuple []) :: (23, .tuple []) :: (22, .tuple []) :: (21, .tuple []) :: (20, .tuple []) :: (19, .tuple []) :: (18, .tuple []) :: (17, .tuple []) :: (16, .tuple []) :: (15, .bool false) :: (14, .bool false) :: (13, .tuple []) :: (12, .tuple []) :: (11, .tuple []) :: (10, .tuple []) :: (9, .tuple []) :: (8, .bool false) :: E1)
  refine oR 20 (p' := .fin) (eE := E5) (H' := (mkH [⟨[.int .i64 a1.f0, .str a1.f1, .int .i64 a1.f2], 0, false⟩])) (by kernel_rfl) ?_
  exact oT (r := false) (xs := [.bool false]) (v := .bool false) (by kernel_rfl) (by kernel_rfl) (by kernel_rfl) (.pures (by kernel_rfl)) (by kernel_rfl)
end
end Go.Proofs.Ytbmijiibfaacmaa.Am
set_option maxRecDepth 100000
set_option linter.unusedVariables false
namespace Go.Proofs.Ytbmijiibfaacmaa.Am
noncomputable section
open Go
def X49 : Fx Int := ⟨Try.prog, cx, Try.f49, fun r => .int .i64 r, 0, fun _ => H0, cxTi, cxOrd⟩
def X49f67_0 (a_0 : Int) (b_1 : Int) : Fx Int := ⟨Try.prog, cx, Try.f67, fun r => .tuple [], 1, fun r => (mkH [⟨[.int .i64 r], 1, false⟩]), cxTi, cxOrd⟩
def g49f67_0p0 : Pt := nav [0] (bodyAt Try.f67)
def g49f67_0p1 : Pt := nav [0, 0] g49f67_0p0
def g49f67_0 (k : Nat) (a_0 : Int) (b_1 : Int) : Option Int :=
 if (decide (a_0 = 10)) then (some (fW .i64 (b_1 + 1))) else (some b_1)
theorem g49f67_0_ok (k : Nat) (a_0 : Int) (b_1 : Int) (r : Int) (h : g49f67_0 k a_0 b_1 = some r) : CallV Try.prog 67 [.int .u8 a_0, .ptr 0 1 0] (mkH [⟨[.int .i64 b_1], 1, false⟩]) (.tuple []) (mkH [⟨[.int .i64 r], 1, false⟩]) := by
 refine callM_of (X49f67_0 a_0 b_1) Try.func67 (by kernel_rfl) (by kernel_rfl) rfl (t := g49f67_0 k a_0 b_1) ?_ h
 unfold g49f67_0
 refine oE (eE := [(0, .int .u8 a_0), (1, .ptr 0 1 0)]) (by kernel_rfl) ?_
 refine oR 5 (p' := g49f67_0p1) (eE := [(4, .bool (decide (a_0 = 10))), (3, .int .u8 a_0), (0, .int .u8 a_0), (1, .ptr 0 1 0)]) (H' := (mkH [⟨[.int .i64 b_1], 1, false⟩])) (by kernel_rfl) ?_
 refine oS 4 (b := decide (a_0 = 10)) (by kernel_rfl) (fun hb => ?_) (fun hb => ?_)
 ·let E1 : Env := [(6, .int .i64 (fW .i64 (b_1 + 1))), (5, .int .i64 b_1), (4, .bool true), (4, .bool (decide (a_0 = 10))), (3, .int .u8 a_0), (0, .int .u8 a_0), (1, .ptr 0 1 0)]
  refine oR 6 (p' := .fin) (eE := E1) (H' := (mkH [⟨[.int .i64 (fW .i64 (b_1 + 1))], 1, false⟩])) (by kernel_rfl) ?_
  refine oK [] (eE := []) (by kernel_rfl) ?_
  exact ok_retM (r := (fW .i64 (b_1 + 1))) (xs := []) (by kernel_rfl) (by kernel_rfl) (by kernel_rfl) (by kernel_rfl)
 ·let E2 : Env := [(4, .bool false), (4, .bool (decide (a_0 = 10))), (3, .int .u8 a_0), (0, .int .u8 a_0), (1, .ptr 0 1 0)]
  refine oR 2 (p' := .fin) (eE := E2) (H' := (mkH [⟨[.int .i64 b_1], 1, false⟩])) (by kernel_rfl) ?_
  refine oK [] (eE := []) (by kernel_rfl) ?_
  exact ok_retM (r := b_1) (xs := []) (by kernel_rfl) (by kernel_rfl) (by kernel_rfl) (by kernel_rfl)
def g49p0 : Pt := nav [0] (bodyAt Try.f49)
def g49p1 : Pt := nav [0, 0, 0, 0] g49p0
def g49p2 : Pt := nav [0] g49p1
def g49p4 : Pt := nav [2, 0, 0] g49p2
def g49p6 : Pt := nav [0, 0, 0] g49p4
def g49p7 : Pt := nav [0, 0, 0, 0] g49p6
def g49p8 : Pt := nav [0, 0, 0, 0] g49p7
def g49p9 : Pt := nav [0, 0, 0] g49p8
def g49p10 : Pt := nav [0, 0] g49p9
def g49p11 : Pt := nav [1, 0, 0, 0] g49p10
def g49p13 : Pt := nav [0, 0] g49p11
def g49_l5 (k : Nat)  (a0 : (List Nat)) (a1 : (List S46)) (a2 : Int) (n : Nat) : Int → Int → Option Int :=
 Nat.rec (motive := fun _ => Int → Int → Option Int) (fun _ _ => none) (fun _ ih => fun (y5_0 : Int) (y5_1 : Int) => (nthL a1 a2).bind fun x2_3 => if (decide (y5_0 < x2_3.f2)) then ((nthS a0 y5_0).bind fun x3_3 => (g49f67_0 k x3_3 y5_1).bind fun x3_4 => ih (fW .i64 (y5_0 + 1)) x3_4) else (some y5_1)) n
theorem g49_l5_s (k : Nat)  (a0 : (List Nat)) (a1 : (List S46)) (a2 : Int) (n : Nat) (y5_0 : Int) (y5_1 : Int) : g49_l5 k a0 a1 a2 (n + 1) y5_0 y5_1 = ((nthL a1 a2).bind fun x2_3 => if (decide (y5_0 < x2_3.f2)) then ((nthS a0 y5_0).bind fun x3_3 => (g49f67_0 k x3_3 y5_1).bind fun x3_4 => (g49_l5 k a0 a1 a2 n) (fW .i64 (y5_0 + 1)) x3_4) else (some y5_1)) := rfl
theorem g49_l5_ok (k : Nat)  (a0 : (List Nat)) (a1 : (List S46)) (a2 : Int)  : ∀ (n : Nat) (y5_0 : Int) (y5_1 : Int), Ok X49 g49p8 [(0, .str a0), (1, .vec (a1).length 3 ((a1).flatMap e47)), (2, .int .i64 a2), (7, .ptr 0 1 0), (8, .func 67 [] [.ptr 0 1 0]), (9, .int .i64 y5_0)] (mkH [⟨[.int .i64 y5_1], 1, false⟩]) (g49_l5 k a0 a1 a2 n y5_0 y5_1)
 | 0, _, _ => ok_none
 | n + 1, y5_0, y5_1 => by
  have ih := g49_l5_ok k a0 a1 a2 n
  rw [g49_l5_s]
  refine ok_ent (p' := nav [0] g49p8) (by kernel_rfl) ?_
  let E3 : Env := [(60, .int .i64 a2), (59, .vec (a1).length 3 ((a1).flatMap e47)), (58, .int .i64 y5_0), (0, .str a0), (1, .vec (a1).length 3 ((a1).flatMap e47)), (2, .int .i64 a2), (7, .ptr 0 1 0), (8, .func 67 [] [.ptr 0 1 0]), (9, .int .i64 y5_0)]
  refine oR 6 (p' := (atN 3 (ctl1 g49p9))) (eE := E3) (H' := (mkH [⟨[.int .i64 y5_1], 1, false⟩])) (by kernel_rfl) ?_
  refine oH (fun (x2_3 : S46) => (.vptr [.int .i64 x2_3.f0, .str x2_3.f1, .int .i64 x2_3.f2], (mkH [⟨[.int .i64 y5_1], 1, false⟩]))) (atN 4 (ctl1 g49p9)) (fun x2_3 => ((61, .vptr [.int .i64 x2_3.f0, .str x2_3.f1, .int .i64 x2_3.f2]) :: E3)) (vidxH (sz := 3) e47_len (by kernel_rfl)) (fun _ => by kernel_rfl) (fun x2_3 hx2_3 => ?_)
  refine oR 4 (p' := g49p10) (eE := ((64, .bool (decide (y5_0 < x2_3.f2))) :: (63, .int .i64 x2_3.f2) :: (62, .vptr [.int .i64 x2_3.f2]) :: (61, .vptr [.int .i64 x2_3.f0, .str x2_3.f1, .int .i64 x2_3.f2]) :: E3)) (H' := (mkH [⟨[.int .i64 y5_1], 1, false⟩])) (by kernel_rfl) ?_
  refine oS 64 (b := decide (y5_0 < x2_3.f2)) (by kernel_rfl) (fun hb => ?_) (fun hb => ?_)
  ·let E4 : Env := ((69, .int .i64 y5_0) :: (68, .str a0) :: (67, .func 67 [] [.ptr 0 1 0]) :: (64, .bool true) :: (64, .bool (decide (y5_0 < x2_3.f2))) :: (63, .int .i64 x2_3.f2) :: (62, .vptr [.int .i64 x2_3.f2]) :: (61, .vptr [.int .i64 x2_3.f0, .str x2_3.f1, .int .i64 x2_3.f2]) :: E3)
   refine oR 8 (p' := (atN 3 (ctl1 g49p11))) (eE := E4) (H' := (mkH [⟨[.int .i64 y5_1], 1, false⟩])) (by kernel_rfl) ?_
   refine oH (fun (x3_3 : Int) => (.int .u8 x3_3, (mkH [⟨[.int .i64 y5_1], 1, false⟩]))) (atN 4 (ctl1 g49p11)) (fun x3_3 => ((70, .int .u8 x3_3) :: E4)) (idxH (by kernel_rfl)) (fun _ => by kernel_rfl) (fun x3_3 hx3_3 => ?_)
   refine ok_callM (fun (x3_4 : Int) => .tuple []) (fun (x3_4 : Int) => (mkH [⟨[.int .i64 x3_4], 1, false⟩])) (atN 5 (ctl1 g49p11)) (fun x3_4 => ((71, .tuple []) :: (70, .int .u8 x3_3) :: E4)) (fi := 67) (args := [.int .u8 x3_3, .ptr 0 1 0]) (by kernel_rfl) (fun r h => g49f67_0_ok k x3_3 y5_1 r h) (fun _ => by kernel_rfl) (fun x3_4 hx3_4 => ?_)
   refine oR 1 (p' := g49p13) (eE := ((71, .tuple []) :: (70, .int .u8 x3_3) :: E4)) (H' := (mkH [⟨[.int .i64 x3_4], 1, false⟩])) (by kernel_rfl) ?_
   refine oK [0, 1, 2, 7, 8, 9] (eE := [(0, .str a0), (1, .vec (a1).length 3 ((a1).flatMap e47)), (2, .int .i64 a2), (7, .ptr 0 1 0), (8, .func 67 [] [.ptr 0 1 0]), (9, .int .i64 y5_0)]) (by kernel_rfl) ?_
   let E5 : Env := [(9, .int .i64 (fW .i64 (y5_0 + 1))), (66, .int .i64 (fW .i64 (y5_0 + 1))), (65, .int .i64 y5_0), (0, .str a0), (1, .vec (a1).length 3 ((a1).flatMap e47)), (2, .int .i64 a2), (7, .ptr 0 1 0), (8, .func 67 [] [.ptr 0 1 0]), (9, .int .i64 y5_0)]
   refine oR 5 (p' := g49p8) (eE := E5) (H' := (mkH [⟨[.int .i64 x3_4], 1, false⟩])) (by kernel_rfl) ?_
   refine oK [0, 1, 2, 7, 8, 9] (eE := [(0, .str a0), (1, .vec (a1).length 3 ((a1).flatMap e47)), (2, .int .i64 a2), (7, .ptr 0 1 0), (8, .func 67 [] [.ptr 0 1 0]), (9, .int .i64 (fW .i64 (y5_0 + 1)))]) (by kernel_rfl) ?_
   exact ih (fW .i64 (y5_0 + 1)) x3_4
  ·let E6 : Env := ((6, .int .i64 y5_1) :: (72, .int .i64 y5_1) :: (64, .bool false) :: (64, .bool (decide (y5_0 < x2_3.f2))) :: (63, .int .i64 x2_3.f2) :: (62, .vptr [.int .i64 x2_3.f2]) :: (61, .vptr [.int .i64 x2_3.f0, .str x2_3.f1, .int .i64 x2_3.f2]) :: E3)
   refine oR 8 (p' := .fin) (eE := E6) (H' := (mkH [⟨[.int .i64 y5_1], 1, false⟩])) (by kernel_rfl) ?_
   exact oT (r := y5_1) (xs := [.int .i64 y5_1]) (v := .int .i64 y5_1) (by kernel_rfl) (by kernel_rfl) (by kernel_rfl) (.pures (by kernel_rfl)) (by kernel_rfl)
def g49 (k : Nat) (a0 : (List Nat)) (a1 : (List S46)) (a2 : Int) : Option Int :=
 jn (fun (z4 : Bool) => if z4 then (some (0 : Int)) else ((nthL a1 (fW .i64 (a2 - 1))).bind fun x1_3 => (g38 k (⟨x1_3.f0, x1_3.f1, x1_3.f2⟩ : S46)).bind fun x1_5 => g49_l5 k a0 a1 a2 k x1_5 0)) (fun j4 => if (decide (a2 < 1)) then (j4 true) else (if (decide ((a1.length : Int) ≤ a2)) then (j4 true) else ((nthL a1 (fW .i64 (a2 - 1))).bind fun x0_13 => (g66 k a0 (⟨x0_13.f0, x0_13.f1, x0_13.f2⟩ : S46)).bind fun x0_15 => if (!x0_15) then (j4 true) else ((nthL a1 a2).bind fun x0_22 => (g66 k a0 (⟨x0_22.f0, x0_22.f1, x0_22.f2⟩ : S46)).bind fun x0_24 => if (!x0_24) then (j4 true) else ((nthL a1 (fW .i64 (a2 - 1))).bind fun x0_31 => (g38 k (⟨x0_31.f0, x0_31.f1, x0_31.f2⟩ : S46)).bind fun x0_33 => (nthL a1 a2).bind fun x0_36 => j4 (decide (x0_36.f2 < x0_33)))))))
theorem g49_ok (k : Nat) (a0 : (List Nat)) (a1 : (List S46)) (a2 : Int) (r : Int) (h : g49 k a0 a1 a2 = some r) : PureOk Try.prog 49 [.str a0, .vec (a1).length 3 ((a1).flatMap e47), .int .i64 a2] (.int .i64 r) := by
 refine pure_of X49 (fun _ => rfl) Try.func49 (by decide +kernel) (by kernel_rfl) (t := g49 k a0 a1 a2) ?_ h
 unfold g49
 refine oE (eE := [(0, .str a0), (1, .vec (a1).length 3 ((a1).flatMap e47)), (2, .int .i64 a2)]) (by kernel_rfl) ?_
 refine oR 6 (p' := g49p1) (eE := [(6, .int .i64 0), (0, .str a0), (1, .vec (a1).length 3 ((a1).flatMap e47)), (2, .int .i64 a2)]) (H' := (mkH [])) (by kernel_rfl) ?_
 refine oJ (f := fun (z4 : Bool) => if z4 then (some (0 : Int)) else ((nthL a1 (fW .i64 (a2 - 1))).bind fun x1_3 => (g38 k (⟨x1_3.f0, x1_3.f1, x1_3.f2⟩ : S46)).bind fun x1_5 => g49_l5 k a0 a1 a2 k x1_5 0)) g49p2 (fun (z4 : Bool) => [(0, .str a0), (1, .vec (a1).length 3 ((a1).flatMap e47)), (2, .int .i64 a2), (50, .bool z4)]) (fun (z4 : Bool) => (mkH [])) (fun z4 => ?_) (fun j4 hj4 => ?_)
 ·refine oS 50 (b := z4) (by kernel_rfl) (fun hb => ?_) (fun hb => ?_)
  ·let E1 : Env := [(6, .int .i64 0), (50, .bool true), (0, .str a0), (1, .vec (a1).length 3 ((a1).flatMap e47)), (2, .int .i64 a2), (50, .bool z4)]
   refine oR 6 (p' := .fin) (eE := E1) (H' := (mkH [])) (by kernel_rfl) ?_
   exact oT (r := (0 : Int)) (xs := [.int .i64 0]) (v := .int .i64 0) (by kernel_rfl) (by kernel_rfl) (by kernel_rfl) (.pures (by kernel_rfl)) (by kernel_rfl)
  ·let E2 : Env := [(54, .int .i64 (fW .i64 (a2 - 1))), (53, .int .i64 a2), (52, .vec (a1).length 3 ((a1).flatMap e47)), (8, .func 67 [] [.ptr 0 1 0]), (51, .func 67 [] [.ptr 0 1 0]), (7, .ptr 0 1 0), (50, .bool false), (0, .str a0), (1, .vec (a1).length 3 ((a1).flatMap e47)), (2, .int .i64 a2), (50, .bool z4)]
   refine oR 18 (p' := (atN 3 (ctl1 g49p7))) (eE := E2) (H' := (mkH [⟨[.int .i64 0], 1, false⟩])) (by kernel_rfl) ?_
   refine oH (fun (x1_3 : S46) => (.vptr [.int .i64 x1_3.f0, .str x1_3.f1, .int .i64 x1_3.f2], (mkH [⟨[.int .i64 0], 1, false⟩]))) (atN 4 (ctl1 g49p7)) (fun x1_3 => ((55, .vptr [.int .i64 x1_3.f0, .str x1_3.f1, .int .i64 x1_3.f2]) :: E2)) (vidxH (sz := 3) e47_len (by kernel_rfl)) (fun _ => by kernel_rfl) (fun x1_3 hx1_3 => ?_)
   refine oR 1 (p' := (atN 5 (ctl1 g49p7))) (eE := ((56, .agg [.int .i64 x1_3.f0, .str x1_3.f1, .int .i64 x1_3.f2]) :: (55, .vptr [.int .i64 x1_3.f0, .str x1_3.f1, .int .i64 x1_3.f2]) :: E2)) (H' := (mkH [⟨[.int .i64 0], 1, false⟩])) (by kernel_rfl) ?_
   refine oC (fun (x1_5 : Int) => .int .i64 x1_5) (atN 6 (ctl1 g49p7)) (fun x1_5 => ((57, .int .i64 x1_5) :: (56, .agg [.int .i64 x1_3.f0, .str x1_3.f1, .int .i64 x1_3.f2]) :: (55, .vptr [.int .i64 x1_3.f0, .str x1_3.f1, .int .i64 x1_3.f2]) :: E2)) (fi := 38) (args := [.agg [.int .i64 x1_3.f0, .str x1_3.f1, .int .i64 x1_3.f2]]) (by kernel_rfl) (by kernel_rfl) (fun _ => by kernel_rfl) (fun r h => g38_ok k (⟨x1_3.f0, x1_3.f1, x1_3.f2⟩ : S46) r h) (fun _ => by kernel_rfl) (fun x1_5 hx1_5 => ?_)
   refine oR 4 (p' := g49p8) (eE := ((9, .int .i64 x1_5) :: (57, .int .i64 x1_5) :: (56, .agg [.int .i64 x1_3.f0, .str x1_3.f1, .int .i64 x1_3.f2]) :: (55, .vptr [.int .i64 x1_3.f0, .str x1_3.f1, .int .i64 x1_3.f2]) :: E2)) (H' := (mkH [⟨[.int .i64 0], 1, false⟩])) (by kernel_rfl) ?_
   refine oK [0, 1, 2, 7, 8, 9] (eE := [(0, .str a0), (1, .vec (a1).length 3 ((a1).flatMap e47)), (2, .int .i64 a2), (7, .ptr 0 1 0), (8, .func 67 [] [.ptr 0 1 0]), (9, .int .i64 x1_5)]) (by kernel_rfl) ?_
   exact (g49_l5_ok k a0 a1 a2 k) x1_5 0
 ·refine ok_if (fun hb4 => ?_) (fun hb4 => ?_)
  ·let E7 : Env := [(12, .bool (decide (a2 < 1))), (11, .bool (decide (a2 < 1))), (10, .int .i64 a2), (6, .int .i64 0), (0, .str a0), (1, .vec (a1).length 3 ((a1).flatMap e47)), (2, .int .i64 a2)]
   let E8 : Env := [(50, .bool true), (49, .tuple []), (48, .tuple []), (47, .tuple []), (46, .tuple []), (45, .tuple []), (44, .tuple []), (43, .tuple []), (42, .tuple []), (41, .tuple []), (40, .tuple []), (39, .tuple []), (38, .tuple []), (37, .bool true), (36, .bool true), (35, .tuple []), (34, .tuple []), (33, .tuple []), (32, .tuple []), (31, .tuple []), (30, .tuple []), (29, .tuple []), (28, .bool true), (27, .bool true), (26, .tuple []), (25, .tuple []), (24, .tuple []), (23, .tuple []), (22, .tuple []), (21, .tuple []), (20, .tuple []), (19, .tuple []), (18, .bool true), (17, .bool true), (16, .tuple []), (15, .tuple []), (14, .tuple []), (13, .tuple []), (12, .bool true), (11, .bool true), (10, .int .i64 a2), (6, .int .i64 0), (0, .str a0), (1, .vec (a1).length 3 ((a1).flatMap e47)), (2, .int .i64 a2)]
   refine ok_draw (p' := nav [0] g49p1) (eE := E8) (H' := (mkH [])) (hs := [(mkH []), (mkH []), (mkH [])]) [(0, 0, 0), (1, 0, 0), (3, 0, 0), (7, 0, 0), (7, 0, 0), (23, 0, 0), (63, 0, 0), (127, 0, 0), (255, 0, 0), (511, 0, 0), (511, 0, 0), (511, 0, 0), (2559, 0, 0), (7679, 0, 0), (15871, 0, 0), (32767, 0, 0), (65535, 0, 0), (131071, 0, 0), (262143, 0, 0), (524287, 0, 0), (524287, 0, 0), (524287, 0, 0), (3670015, 0, 0), (7864319, 1, 1), (16777215, 0, 0), (33554431, 0, 0), (67108863, 0, 0), (134217727, 0, 0), (268435455, 0, 0), (268435455, 0, 0), (805306367, 0, 0), (2147483647, 0, 0), (4294967295, 2, 2), (8589934591, 0, 0), (268435455, 0, 0), (268435455, 0, 0), (51808043007, 0, 0), (120527519743, 0, 0), (257966473215, 2, 3), (549755813887, 0, 0), (1099511627775, 0, 0)] (by kernel_rfl) (by kernel_rfl) (by kernel_rfl) (opsD_run 3 (l' := (opsAt g49p1).toList.drop 3) (eE := E7) (H' := (mkH [])) (hs := []) (by kernel_rfl) (opsD_env (eE := [(12, .bool true), (11, .bool true), (10, .int .i64 a2), (6, .int .i64 0), (0, .str a0), (1, .vec (a1).length 3 ((a1).flatMap e47)), (2, .int .i64 a2)]) (congrArg (fun z : Bool => ([(12, .bool z), (11, .bool z), (10, .int .i64 a2), (6, .int .i64 0), (0, .str a0), (1, .vec (a1).length 3 ((a1).flatMap e47)), (2, .int .i64 a2)] : Env)) hb4) (opsD_run 38 (l' := (opsAt g49p1).toList.drop 41) (eE := E8) (H' := (mkH [])) (hs := [(mkH []), (mkH []), (mkH [])]) (by kernel_rfl) (.nil)))) (by kernel_rfl) (by kernel_rfl) (by kernel_rfl) ?_
   refine oK [0, 1, 2, 50] (eE := [(0, .str a0), (1, .vec (a1).length 3 ((a1).flatMap e47)), (2, .int .i64 a2), (50, .bool true)]) (by kernel_rfl) ?_
   exact hj4 true
  ·refine ok_if (fun hb5 => ?_) (fun hb5 => ?_)
   ·let E7 : Env := [(12, .bool (decide (a2 < 1))), (11, .bool (decide (a2 < 1))), (10, .int .i64 a2), (6, .int .i64 0), (0, .str a0), (1, .vec (a1).length 3 ((a1).flatMap e47)), (2, .int .i64 a2)]
    let E9 : Env := [(18, .bool (decide ((a1.length : Int) ≤ a2))), (17, .bool (decide ((a1.length : Int) ≤ a2))), (16, .bool (decide ((a1.length : Int) ≤ a2))), (15, .int .i64 (a1.length : Int)), (14, .vec (a1).length 3 ((a1).flatMap e47)), (13, .int .i64 a2), (12, .bool false), (11, .bool false), (10, .int .i64 a2), (6, .int .i64 0), (0, .str a0), (1, .vec (a1).length 3 ((a1).flatMap e47)), (2, .int .i64 a2)]
    let E10 : Env := [(50, .bool true), (49, .tuple []), (48, .tuple []), (47, .tuple []), (46, .tuple []), (45, .tuple []), (44, .tuple []), (43, .tuple []), (42, .tuple []), (41, .tuple []), (40, .tuple []), (39, .tuple []), (38, .tuple []), (37, .bool true), (36, .bool true), (35, .tuple []), (34, .tuple []), (33, .tuple []), (32, .tuple []), (31, .tuple []), (30, .tuple []), (29, .tuple []), (28, .bool true), (27, .bool true), (26, .tuple []), (25, .tuple []), (24, .tuple []), (23, .tuple []), (22, .tuple []), (21, .tuple []), (20, .tuple []), (19, .tuple []), (18, .bool true), (17, .bool true), (16, .bool true), (15, .int .i64 (a1.length : Int)), (14, .vec (a1).length 3 ((a1).flatMap e47)), (13, .int .i64 a2), (12, .bool false), (11, .bool false), (10, .int .i64 a2), (6, .int .i64 0), (0, .str a0), (1, .vec (a1).length 3 ((a1).flatMap e47)), (2, .int .i64 a2)]
    refine ok_draw (p' := nav [0] g49p1) (eE := E10) (H' := (mkH [])) (hs := [(mkH []), (mkH []), (mkH [])]) [(0, 0, 0), (1, 0, 0), (3, 0, 0), (7, 0, 0), (7, 0, 0), (23, 0, 0), (63, 0, 0), (127, 0, 0), (255, 0, 0), (511, 0, 0), (511, 0, 0), (511, 0, 0), (2559, 0, 0), (7679, 0, 0), (15871, 0, 0), (32767, 0, 0), (65535, 0, 0), (131071, 0, 0), (262143, 0, 0), (524287, 0, 0), (524287, 0, 0), (524287, 0, 0), (3670015, 0, 0), (7864319, 1, 1), (16777215, 0, 0), (33554431, 0, 0), (67108863, 0, 0), (134217727, 0, 0), (268435455, 0, 0), (268435455, 0, 0), (805306367, 0, 0), (2147483647, 0, 0), (4294967295, 2, 2), (8589934591, 0, 0), (268435455, 0, 0), (268435455, 0, 0), (51808043007, 0, 0), (120527519743, 0, 0), (257966473215, 2, 3), (549755813887, 0, 0), (1099511627775, 0, 0)] (by kernel_rfl) (by kernel_rfl) (by kernel_rfl) (opsD_run 3 (l' := (opsAt g49p1).toList.drop 3) (eE := E7) (H' := (mkH [])) (hs := []) (by kernel_rfl) (opsD_env (eE := [(12, .bool false), (11, .bool false), (10, .int .i64 a2), (6, .int .i64 0), (0, .str a0), (1, .vec (a1).length 3 ((a1).flatMap e47)), (2, .int .i64 a2)]) (congrArg (fun z : Bool => ([(12, .bool z), (11, .bool z), (10, .int .i64 a2), (6, .int .i64 0), (0, .str a0), (1, .vec (a1).length 3 ((a1).flatMap e47)), (2, .int .i64 a2)] : Env)) hb4) (opsD_run 6 (l' := (opsAt g49p1).toList.drop 9) (eE := E9) (H' := (mkH [])) (hs := []) (by kernel_rfl) (opsD_env (eE := [(18, .bool true), (17, .bool true), (16, .bool true), (15, .int .i64 (a1.length : Int)), (14, .vec (a1).length 3 ((a1).flatMap e47)), (13, .int .i64 a2), (12, .bool false), (11, .bool false), (10, .int .i64 a2), (6, .int .i64 0), (0, .str a0), (1, .vec (a1).length 3 ((a1).flatMap e47)), (2, .int .i64 a2)]) (congrArg (fun z : Bool => ([(18, .bool z), (17, .bool z), (16, .bool z), (15, .int .i64 (a1.length : Int)), (14, .vec (a1).length 3 ((a1).flatMap e47)), (13, .int .i64 a2), (12, .bool false), (11, .bool false), (10, .int .i64 a2), (6, .int .i64 0), (0, .str a0), (1, .vec (a1).length 3 ((a1).flatMap e47)), (2, .int .i64 a2)] : Env)) hb5) (opsD_run 32 (l' := (opsAt g49p1).toList.drop 41) (eE := E10) (H' := (mkH [])) (hs := [(mkH []), (mkH []), (mkH [])]) (by kernel_rfl) (.nil)))))) (by kernel_rfl) (by kernel_rfl) (by kernel_rfl) ?_
    refine oK [0, 1, 2, 50] (eE := [(0, .str a0), (1, .vec (a1).length 3 ((a1).flatMap e47)), (2, .int .i64 a2), (50, .bool true)]) (by kernel_rfl) ?_
    exact hj4 true
   ·refine ok_bind (fun x0_13 hx0_13 => ?_)
    refine ok_bind (fun x0_15 hx0_15 => ?_)
    refine ok_if (fun hb6 => ?_) (fun hb6 => ?_)
    ·let E7 : Env := [(12, .bool (decide (a2 < 1))), (11, .bool (decide (a2 < 1))), (10, .int .i64 a2), (6, .int .i64 0), (0, .str a0), (1, .vec (a1).length 3 ((a1).flatMap e47)), (2, .int .i64 a2)]
     let E9 : Env := [(18, .bool (decide ((a1.length : Int) ≤ a2))), (17, .bool (decide ((a1.length : Int) ≤ a2))), (16, .bool (decide ((a1.length : Int) ≤ a2))), (15, .int .i64 (a1.length : Int)), (14, .vec (a1).length 3 ((a1).flatMap e47)), (13, .int .i64 a2), (12, .bool false), (11, .bool false), (10, .int .i64 a2), (6, .int .i64 0), (0, .str a0), (1, .vec (a1).length 3 ((a1).flatMap e47)), (2, .int .i64 a2)]
     let E11 : Env := [(22, .int .i64 (fW .i64 (a2 - 1))), (21, .int .i64 a2), (20, .vec (a1).length 3 ((a1).flatMap e47)), (19, .str a0), (18, .bool false), (17, .bool false), (16, .bool false), (15, .int .i64 (a1.length : Int)), (14, .vec (a1).length 3 ((a1).flatMap e47)), (13, .int .i64 a2), (12, .bool false), (11, .bool false), (10, .int .i64 a2), (6, .int .i64 0), (0, .str a0), (1, .vec (a1).length 3 ((a1).flatMap e47)), (2, .int .i64 a2)]
     let E12 : Env := ((28, .bool (!x0_15)) :: (27, .bool (!x0_15)) :: (26, .bool (!x0_15)) :: (25, .bool x0_15) :: (24, .agg [.int .i64 x0_13.f0, .str x0_13.f1, .int .i64 x0_13.f2]) :: (23, .vptr [.int .i64 x0_13.f0, .str x0_13.f1, .int .i64 x0_13.f2]) :: E11)
     let E13 : Env := [(50, .bool true), (49, .tuple []), (48, .tuple []), (47, .tuple []), (46, .tuple []), (45, .tuple []), (44, .tuple []), (43, .tuple []), (42, .tuple []), (41, .tuple []), (40, .tuple []), (39, .tuple []), (38, .tuple []), (37, .bool true), (36, .bool true), (35, .tuple []), (34, .tuple []), (33, .tuple []), (32, .tuple []), (31, .tuple []), (30, .tuple []), (29, .tuple []), (28, .bool true), (27, .bool true), (26, .bool true), (25, .bool x0_15), (24, .agg [.int .i64 x0_13.f0, .str x0_13.f1, .int .i64 x0_13.f2]), (23, .vptr [.int .i64 x0_13.f0, .str x0_13.f1, .int .i64 x0_13.f2]), (22, .int .i64 (fW .i64 (a2 - 1))), (21, .int .i64 a2), (20, .vec (a1).length 3 ((a1).flatMap e47)), (19, .str a0), (18, .bool false), (17, .bool false), (16, .bool false), (15, .int .i64 (a1.length : Int)), (14, .vec (a1).length 3 ((a1).flatMap e47)), (13, .int .i64 a2), (12, .bool false), (11, .bool false), (10, .int .i64 a2), (6, .int .i64 0), (0, .str a0), (1, .vec (a1).length 3 ((a1).flatMap e47)), (2, .int .i64 a2)]
     refine ok_draw (p' := nav [0] g49p1) (eE := E13) (H' := (mkH [])) (hs := [(mkH []), (mkH []), (mkH [])]) [(0, 0, 0), (1, 0, 0), (3, 0, 0), (7, 0, 0), (7, 0, 0), (23, 0, 0), (63, 0, 0), (127, 0, 0), (255, 0, 0), (511, 0, 0), (511, 0, 0), (511, 0, 0), (2559, 0, 0), (7679, 0, 0), (15871, 0, 0), (32767, 0, 0), (65535, 0, 0), (131071, 0, 0), (262143, 0, 0), (524287, 0, 0), (524287, 0, 0), (524287, 0, 0), (3670015, 0, 0), (7864319, 1, 1), (16777215, 0, 0), (33554431, 0, 0), (67108863, 0, 0), (134217727, 0, 0), (268435455, 0, 0), (268435455, 0, 0), (805306367, 0, 0), (2147483647, 0, 0), (4294967295, 2, 2), (8589934591, 0, 0), (268435455, 0, 0), (268435455, 0, 0), (51808043007, 0, 0), (120527519743, 0, 0), (257966473215, 2, 3), (549755813887, 0, 0), (1099511627775, 0, 0)] (by kernel_rfl) (by kernel_rfl) (by kernel_rfl) (opsD_run 3 (l' := (opsAt g49p1).toList.drop 3) (eE := E7) (H' := (mkH [])) (hs := []) (by kernel_rfl) (opsD_env (eE := [(12, .bool false), (11, .bool false), (10, .int .i64 a2), (6, .int .i64 0), (0, .str a0), (1, .vec (a1).length 3 ((a1).flatMap e47)), (2, .int .i64 a2)]) (congrArg (fun z : Bool => ([(12, .bool z), (11, .bool z), (10, .int .i64 a2), (6, .int .i64 0), (0, .str a0), (1, .vec (a1).length 3 ((a1).flatMap e47)), (2, .int .i64 a2)] : Env)) hb4) (opsD_run 6 (l' := (opsAt g49p1).toList.drop 9) (eE := E9) (H' := (mkH [])) (hs := []) (by kernel_rfl) (opsD_env (eE := [(18, .bool false), (17, .bool false), (16, .bool false), (15, .int .i64 (a1.length : Int)), (14, .vec (a1).length 3 ((a1).flatMap e47)), (13, .int .i64 a2), (12, .bool false), (11, .bool false), (10, .int .i64 a2), (6, .int .i64 0), (0, .str a0), (1, .vec (a1).length 3 ((a1).flatMap e47)), (2, .int .i64 a2)]) (congrArg (fun z : Bool => ([(18, .bool z), (17, .bool z), (16, .bool z), (15, .int .i64 (a1.length : Int)), (14, .vec (a1).length 3 ((a1).flatMap e47)), (13, .int .i64 a2), (12, .bool false), (11, .bool false), (10, .int .i64 a2), (6, .int .i64 0), (0, .str a0), (1, .vec (a1).length 3 ((a1).flatMap e47)), (2, .int .i64 a2)] : Env)) hb5) (opsD_run 4 (l' := (opsAt g49p1).toList.drop 13) (eE := E11) (H' := (mkH [])) (hs := []) (by kernel_rfl) (opsD_chk (l' := (opsAt g49p1).toList.drop 14) (eE := ((23, .vptr [.int .i64 x0_13.f0, .str x0_13.f1, .int .i64 x0_13.f2]) :: E11)) (hs := []) (x := x0_13) (fun (x0_13 : S46) => (.vptr [.int .i64 x0_13.f0, .str x0_13.f1, .int .i64 x0_13.f2], (mkH []))) (vidxH (sz := 3) e47_len (by kernel_rfl)) hx0_13 (by kernel_rfl) (opsD_run 1 (l' := (opsAt g49p1).toList.drop 15) (eE := ((24, .agg [.int .i64 x0_13.f0, .str x0_13.f1, .int .i64 x0_13.f2]) :: (23, .vptr [.int .i64 x0_13.f0, .str x0_13.f1, .int .i64 x0_13.f2]) :: E11)) (H' := (mkH [])) (hs := []) (by kernel_rfl) (opsD_call (l' := (opsAt g49p1).toList.drop 16) (eE := ((25, .bool x0_15) :: (24, .agg [.int .i64 x0_13.f0, .str x0_13.f1, .int .i64 x0_13.f2]) :: (23, .vptr [.int .i64 x0_13.f0, .str x0_13.f1, .int .i64 x0_13.f2]) :: E11)) (hs := [(mkH [])]) (fi := 66) (args := [.str a0, .agg [.int .i64 x0_13.f0, .str x0_13.f1, .int .i64 x0_13.f2]]) (v := .bool x0_15) (by kernel_rfl) (by kernel_rfl) (by kernel_rfl) (g66_ok k a0 (⟨x0_13.f0, x0_13.f1, x0_13.f2⟩ : S46) x0_15 hx0_15) (by kernel_rfl) (opsD_run 3 (l' := (opsAt g49p1).toList.drop 19) (eE := E12) (H' := (mkH [])) (hs := []) (by kernel_rfl) (opsD_env (eE := [(28, .bool true), (27, .bool true), (26, .bool true), (25, .bool x0_15), (24, .agg [.int .i64 x0_13.f0, .str x0_13.f1, .int .i64 x0_13.f2]), (23, .vptr [.int .i64 x0_13.f0, .str x0_13.f1, .int .i64 x0_13.f2]), (22, .int .i64 (fW .i64 (a2 - 1))), (21, .int .i64 a2), (20, .vec (a1).length 3 ((a1).flatMap e47)), (19, .str a0), (18, .bool false), (17, .bool false), (16, .bool false), (15, .int .i64 (a1.length : Int)), (14, .vec (a1).length 3 ((a1).flatMap e47)), (13, .int .i64 a2), (12, .bool false), (11, .bool false), (10, .int .i64 a2), (6, .int .i64 0), (0, .str a0), (1, .vec (a1).length 3 ((a1).flatMap e47)), (2, .int .i64 a2)]) (congrArg (fun z : Bool => ([(28, .bool z), (27, .bool z), (26, .bool z), (25, .bool x0_15), (24, .agg [.int .i64 x0_13.f0, .str x0_13.f1, .int .i64 x0_13.f2]), (23, .vptr [.int .i64 x0_13.f0, .str x0_13.f1, .int .i64 x0_13.f2]), (22, .int .i64 (fW .i64 (a2 - 1))), (21, .int .i64 a2), (20, .vec (a1).length 3 ((a1).flatMap e47)), (19, .str a0), (18, .bool false), (17, .bool false), (16, .bool false), (15, .int .i64 (a1.length : Int)), (14, .vec (a1).length 3 ((a1).flatMap e47)), (13, .int .i64 a2), (12, .bool false), (11, .bool false), (10, .int .i64 a2), (6, .int .i64 0), (0, .str a0), (1, .vec (a1).length 3 ((a1).flatMap e47)), (2, .int .i64 a2)] : Env)) hb6) (opsD_run 22 (l' := (opsAt g49p1).toList.drop 41) (eE := E13) (H' := (mkH [])) (hs := [(mkH []), (mkH [])]) (by kernel_rfl) (.nil)))))))))))) (by kernel_rfl) (by kernel_rfl) (by kernel_rfl) ?_
     refine oK [0, 1, 2, 50] (eE := [(0, .str a0), (1, .vec (a1).length 3 ((a1).flatMap e47)), (2, .int .i64 a2), (50, .bool true)]) (by kernel_rfl) ?_
     exact hj4 true
    ·refine ok_bind (fun x0_22 hx0_22 => ?_)
     refine ok_bind (fun x0_24 hx0_24 => ?_)
     refine ok_if (fun hb7 => ?_) (fun hb7 => ?_)
     ·let E7 : Env := [(12, .bool (decide (a2 < 1))), (11, .bool (decide (a2 < 1))), (10, .int .i64 a2), (6, .int .i64 0), (0, .str a0), (1, .vec (a1).length 3 ((a1).flatMap e47)), (2, .int .i64 a2)]
      let E9 : Env := [(18, .bool (decide ((a1.length : Int) ≤ a2))), (17, .bool (decide ((a1.length : Int) ≤ a2))), (16, .bool (decide ((a1.length : Int) ≤ a2))), (15, .int .i64 (a1.length : Int)), (14, .vec (a1).length 3 ((a1).flatMap e47)), (13, .int .i64 a2), (12, .bool false), (11, .bool false), (10, .int .i64 a2), (6, .int .i64 0), (0, .str a0), (1, .vec (a1).length 3 ((a1).flatMap e47)), (2, .int .i64 a2)]
      let E11 : Env := [(22, .int .i64 (fW .i64 (a2 - 1))), (21, .int .i64 a2), (20, .vec (a1).length 3 ((a1).flatMap e47)), (19, .str a0), (18, .bool false), (17, .bool false), (16, .bool false), (15, .int .i64 (a1.length : Int)), (14, .vec (a1).length 3 ((a1).flatMap e47)), (13, .int .i64 a2), (12, .bool false), (11, .bool false), (10, .int .i64 a2), (6, .int .i64 0), (0, .str a0), (1, .vec (a1).length 3 ((a1).flatMap e47)), (2, .int .i64 a2)]
      let E12 : Env := ((28, .bool (!x0_15)) :: (27, .bool (!x0_15)) :: (26, .bool (!x0_15)) :: (25, .bool x0_15) :: (24, .agg [.int .i64 x0_13.f0, .str x0_13.f1, .int .i64 x0_13.f2]) :: (23, .vptr [.int .i64 x0_13.f0, .str x0_13.f1, .int .i64 x0_13.f2]) :: E11)
      let E14 : Env := [(31, .int .i64 a2), (30, .vec (a1).length 3 ((a1).flatMap e47)), (29, .str a0), (28, .bool false), (27, .bool false), (26, .bool false), (25, .bool x0_15), (24, .agg [.int .i64 x0_13.f0, .str x0_13.f1, .int .i64 x0_13.f2]), (23, .vptr [.int .i64 x0_13.f0, .str x0_13.f1, .int .i64 x0_13.f2]), (22, .int .i64 (fW .i64 (a2 - 1))), (21, .int .i64 a2), (20, .vec (a1).length 3 ((a1).flatMap e47)), (19, .str a0), (18, .bool false), (17, .bool false), (16, .bool false), (15, .int .i64 (a1.length : Int)), (14, .vec (a1).length 3 ((a1).flatMap e47)), (13, .int .i64 a2), (12, .bool false), (11, .bool false), (10, .int .i64 a2), (6, .int .i64 0), (0, .str a0), (1, .vec (a1).length 3 ((a1).flatMap e47)), (2, .int .i64 a2)]
      let E15 : Env := ((37, .bool (!x0_24)) :: (36, .bool (!x0_24)) :: (35, .bool (!x0_24)) :: (34, .bool x0_24) :: (33, .agg [.int .i64 x0_22.f0, .str x0_22.f1, .int .i64 x0_22.f2]) :: (32, .vptr [.int .i64 x0_22.f0, .str x0_22.f1, .int .i64 x0_22.f2]) :: E14)
      let E16 : Env := [(50, .bool true), (49, .tuple []), (48, .tuple []), (47, .tuple []), (46, .tuple []), (45, .tuple []), (44, .tuple []), (43, .tuple []), (42, .tuple []), (41, .tuple []), (40, .tuple []), (39, .tuple []), (38, .tuple []), (37, .bool true), (36, .bool true), (35, .bool true), (34, .bool x0_24), (33, .agg [.int .i64 x0_22.f0, .str x0_22.f1, .int .i64 x0_22.f2]), (32, .vptr [.int .i64 x0_22.f0, .str x0_22.f1, .int .i64 x0_22.f2]), (31, .int .i64 a2), (30, .vec (a1).length 3 ((a1).flatMap e47)), (29, .str a0), (28, .bool false), (27, .bool false), (26, .bool false), (25, .bool x0_15), (24, .agg [.int .i64 x0_13.f0, .str x0_13.f1, .int .i64 x0_13.f2]), (23, .vptr [.int .i64 x0_13.f0, .str x0_13.f1, .int .i64 x0_13.f2]), (22, .int .i64 (fW .i64 (a2 - 1))), (21, .int .i64 a2), (20, .vec (a1).length 3 ((a1).flatMap e47)), (19, .str a0), (18, .bool false), (17, .bool false), (16, .bool false), (15, .int .i64 (a1.length : Int)), (14, .vec (a1).length 3 ((a1).flatMap e47)), (13, .int .i64 a2), (12, .bool false), (11, .bool false), (10, .int .i64 a2), (6, .int .i64 0), (0, .str a0), (1, .vec (a1).length 3 ((a1).flatMap e47)), (2, .int .i64 a2)]
      refine ok_draw (p' := nav [0] g49p1) (eE := E16) (H' := (mkH [])) (hs := [(mkH []), (mkH []), (mkH [])]) [(0, 0, 0), (1, 0, 0), (3, 0, 0), (7, 0, 0), (7, 0, 0), (23, 0, 0), (63, 0, 0), (127, 0, 0), (255, 0, 0), (511, 0, 0), (511, 0, 0), (511, 0, 0), (2559, 0, 0), (7679, 0, 0), (15871, 0, 0), (32767, 0, 0), (65535, 0, 0), (131071, 0, 0), (262143, 0, 0), (524287, 0, 0), (524287, 0, 0), (524287, 0, 0), (3670015, 0, 0), (7864319, 1, 1), (16777215, 0, 0), (33554431, 0, 0), (67108863, 0, 0), (134217727, 0, 0), (268435455, 0, 0), (268435455, 0, 0), (805306367, 0, 0), (2147483647, 0, 0), (4294967295, 2, 2), (8589934591, 0, 0), (268435455, 0, 0), (268435455, 0, 0), (51808043007, 0, 0), (120527519743, 0, 0), (257966473215, 2, 3), (549755813887, 0, 0), (1099511627775, 0, 0)] (by kernel_rfl) (by kernel_rfl) (by kernel_rfl) (opsD_run 3 (l' := (opsAt g49p1).toList.drop 3) (eE := E7) (H' := (mkH [])) (hs := []) (by kernel_rfl) (opsD_env (eE := [(12, .bool false), (11, .bool false), (10, .int .i64 a2), (6, .int .i64 0), (0, .str a0), (1, .vec (a1).length 3 ((a1).flatMap e47)), (2, .int .i64 a2)]) (congrArg (fun z : Bool => ([(12, .bool z), (11, .bool z), (10, .int .i64 a2), (6, .int .i64 0), (0, .str a0), (1, .vec (a1).length 3 ((a1).flatMap e47)), (2, .int .i64 a2)] : Env)) hb4) (opsD_run 6 (l' := (opsAt g49p1).toList.drop 9) (eE := E9) (H' := (mkH [])) (hs := []) (by kernel_rfl) (opsD_env (eE := [(18, .bool false), (17, .bool false), (16, .bool false), (15, .int .i64 (a1.length : Int)), (14, .vec (a1).length 3 ((a1).flatMap e47)), (13, .int .i64 a2), (12, .bool false), (11, .bool false), (10, .int .i64 a2), (6, .int .i64 0), (0, .str a0), (1, .vec (a1).length 3 ((a1).flatMap e47)), (2, .int .i64 a2)]) (congrArg (fun z : Bool => ([(18, .bool z), (17, .bool z), (16, .bool z), (15, .int .i64 (a1.length : Int)), (14, .vec (a1).length 3 ((a1).flatMap e47)), (13, .int .i64 a2), (12, .bool false), (11, .bool false), (10, .int .i64 a2), (6, .int .i64 0), (0, .str a0), (1, .vec (a1).length 3 ((a1).flatMap e47)), (2, .int .i64 a2)] : Env)) hb5) (opsD_run 4 (l' := (opsAt g49p1).toList.drop 13) (eE := E11) (H' := (mkH [])) (hs := []) (by kernel_rfl) (opsD_chk (l' := (opsAt g49p1).toList.drop 14) (eE := ((23, .vptr [.int .i64 x0_13.f0, .str x0_13.f1, .int .i64 x0_13.f2]) :: E11)) (hs := []) (x := x0_13) (fun (x0_13 : S46) => (.vptr [.int .i64 x0_13.f0, .str x0_13.f1, .int .i64 x0_13.f2], (mkH []))) (vidxH (sz := 3) e47_len (by kernel_rfl)) hx0_13 (by kernel_rfl) (opsD_run 1 (l' := (opsAt g49p1).toList.drop 15) (eE := ((24, .agg [.int .i64 x0_13.f0, .str x0_13.f1, .int .i64 x0_13.f2]) :: (23, .vptr [.int .i64 x0_13.f0, .str x0_13.f1, .int .i64 x0_13.f2]) :: E11)) (H' := (mkH [])) (hs := []) (by kernel_rfl) (opsD_call (l' := (opsAt g49p1).toList.drop 16) (eE := ((25, .bool x0_15) :: (24, .agg [.int .i64 x0_13.f0, .str x0_13.f1, .int .i64 x0_13.f2]) :: (23, .vptr [.int .i64 x0_13.f0, .str x0_13.f1, .int .i64 x0_13.f2]) :: E11)) (hs := [(mkH [])]) (fi := 66) (args := [.str a0, .agg [.int .i64 x0_13.f0, .str x0_13.f1, .int .i64 x0_13.f2]]) (v := .bool x0_15) (by kernel_rfl) (by kernel_rfl) (by kernel_rfl) (g66_ok k a0 (⟨x0_13.f0, x0_13.f1, x0_13.f2⟩ : S46) x0_15 hx0_15) (by kernel_rfl) (opsD_run 3 (l' := (opsAt g49p1).toList.drop 19) (eE := E12) (H' := (mkH [])) (hs := []) (by kernel_rfl) (opsD_env (eE := [(28, .bool false), (27, .bool false), (26, .bool false), (25, .bool x0_15), (24, .agg [.int .i64 x0_13.f0, .str x0_13.f1, .int .i64 x0_13.f2]), (23, .vptr [.int .i64 x0_13.f0, .str x0_13.f1, .int .i64 x0_13.f2]), (22, .int .i64 (fW .i64 (a2 - 1))), (21, .int .i64 a2), (20, .vec (a1).length 3 ((a1).flatMap e47)), (19, .str a0), (18, .bool false), (17, .bool false), (16, .bool false), (15, .int .i64 (a1.length : Int)), (14, .vec (a1).length 3 ((a1).flatMap e47)), (13, .int .i64 a2), (12, .bool false), (11, .bool false), (10, .int .i64 a2), (6, .int .i64 0), (0, .str a0), (1, .vec (a1).length 3 ((a1).flatMap e47)), (2, .int .i64 a2)]) (congrArg (fun z : Bool => ([(28, .bool z), (27, .bool z), (26, .bool z), (25, .bool x0_15), (24, .agg [.int .i64 x0_13.f0, .str x0_13.f1, .int .i64 x0_13.f2]), (23, .vptr [.int .i64 x0_13.f0, .str x0_13.f1, .int .i64 x0_13.f2]), (22, .int .i64 (fW .i64 (a2 - 1))), (21, .int .i64 a2), (20, .vec (a1).length 3 ((a1).flatMap e47)), (19, .str a0), (18, .bool false), (17, .bool false), (16, .bool false), (15, .int .i64 (a1.length : Int)), (14, .vec (a1).length 3 ((a1).flatMap e47)), (13, .int .i64 a2), (12, .bool false), (11, .bool false), (10, .int .i64 a2), (6, .int .i64 0), (0, .str a0), (1, .vec (a1).length 3 ((a1).flatMap e47)), (2, .int .i64 a2)] : Env)) hb6) (opsD_run 3 (l' := (opsAt g49p1).toList.drop 22) (eE := E14) (H' := (mkH [])) (hs := []) (by kernel_rfl) (opsD_chk (l' := (opsAt g49p1).toList.drop 23) (eE := ((32, .vptr [.int .i64 x0_22.f0, .str x0_22.f1, .int .i64 x0_22.f2]) :: E14)) (hs := []) (x := x0_22) (fun (x0_22 : S46) => (.vptr [.int .i64 x0_22.f0, .str x0_22.f1, .int .i64 x0_22.f2], (mkH []))) (vidxH (sz := 3) e47_len (by kernel_rfl)) hx0_22 (by kernel_rfl) (opsD_run 1 (l' := (opsAt g49p1).toList.drop 24) (eE := ((33, .agg [.int .i64 x0_22.f0, .str x0_22.f1, .int .i64 x0_22.f2]) :: (32, .vptr [.int .i64 x0_22.f0, .str x0_22.f1, .int .i64 x0_22.f2]) :: E14)) (H' := (mkH [])) (hs := []) (by kernel_rfl) (opsD_call (l' := (opsAt g49p1).toList.drop 25) (eE := ((34, .bool x0_24) :: (33, .agg [.int .i64 x0_22.f0, .str x0_22.f1, .int .i64 x0_22.f2]) :: (32, .vptr [.int .i64 x0_22.f0, .str x0_22.f1, .int .i64 x0_22.f2]) :: E14)) (hs := [(mkH [])]) (fi := 66) (args := [.str a0, .agg [.int .i64 x0_22.f0, .str x0_22.f1, .int .i64 x0_22.f2]]) (v := .bool x0_24) (by kernel_rfl) (by kernel_rfl) (by kernel_rfl) (g66_ok k a0 (⟨x0_22.f0, x0_22.f1, x0_22.f2⟩ : S46) x0_24 hx0_24) (by kernel_rfl) (opsD_run 3 (l' := (opsAt g49p1).toList.drop 28) (eE := E15) (H' := (mkH [])) (hs := []) (by kernel_rfl) (opsD_env (eE := [(37, .bool true), (36, .bool true), (35, .bool true), (34, .bool x0_24), (33, .agg [.int .i64 x0_22.f0, .str x0_22.f1, .int .i64 x0_22.f2]), (32, .vptr [.int .i64 x0_22.f0, .str x0_22.f1, .int .i64 x0_22.f2]), (31, .int .i64 a2), (30, .vec (a1).length 3 ((a1).flatMap e47)), (29, .str a0), (28, .bool false), (27, .bool false), (26, .bool false), (25, .bool x0_15), (24, .agg [.int .i64 x0_13.f0, .str x0_13.f1, .int .i64 x0_13.f2]), (23, .vptr [.int .i64 x0_13.f0, .str x0_13.f1, .int .i64 x0_13.f2]), (22, .int .i64 (fW .i64 (a2 - 1))), (21, .int .i64 a2), (20, .vec (a1).length 3 ((a1).flatMap e47)), (19, .str a0), (18, .bool false), (17, .bool false), (16, .bool false), (15, .int .i64 (a1.length : Int)), (14, .vec (a1).length 3 ((a1).flatMap e47)), (13, .int .i64 a2), (12, .bool false), (11, .bool false), (10, .int .i64 a2), (6, .int .i64 0), (0, .str a0), (1, .vec (a1).length 3 ((a1).flatMap e47)), (2, .int .i64 a2)]) (congrArg (fun z : Bool => ([(37, .bool z), (36, .bool z), (35, .bool z), (34, .bool x0_24), (33, .agg [.int .i64 x0_22.f0, .str x0_22.f1, .int .i64 x0_22.f2]), (32, .vptr [.int .i64 x0_22.f0, .str x0_22.f1, .int .i64 x0_22.f2]), (31, .int .i64 a2), (30, .vec (a1).length 3 ((a1).flatMap e47)), (29, .str a0), (28, .bool false), (27, .bool false), (26, .bool false), (25, .bool x0_15), (24, .agg [.int .i64 x0_13.f0, .str x0_13.f1, .int .i64 x0_13.f2]), (23, .vptr [.int .i64 x0_13.f0, .str x0_13.f1, .int .i64 x0_13.f2]), (22, .int .i64 (fW .i64 (a2 - 1))), (21, .int .i64 a2), (20, .vec (a1).length 3 ((a1).flatMap e47)), (19, .str a0), (18, .bool false), (17, .bool false), (16, .bool false), (15, .int .i64 (a1.length : Int)), (14, .vec (a1).length 3 ((a1).flatMap e47)), (13, .int .i64 a2), (12, .bool false), (11, .bool false), (10, .int .i64 a2), (6, .int .i64 0), (0, .str a0), (1, .vec (a1).length 3 ((a1).flatMap e47)), (2, .int .i64 a2)] : Env)) hb7) (opsD_run 13 (l' := (opsAt g49p1).toList.drop 41) (eE := E16) (H' := (mkH [])) (hs := [(mkH [])]) (by kernel_rfl) (.nil)))))))))))))))))) (by kernel_rfl) (by kernel_rfl) (by kernel_rfl) ?_
      refine oK [0, 1, 2, 50] (eE := [(0, .str a0), (1, .vec (a1).length 3 ((a1).flatMap e47)), (2, .int .i64 a2), (50, .bool true)]) (by kernel_rfl) ?_
      exact hj4 true
     ·refine ok_bind (fun x0_31 hx0_31 => ?_)
      refine ok_bind (fun x0_33 hx0_33 => ?_)
      refine ok_bind (fun x0_36 hx0_36 => ?_)
      let E7 : Env := [(12, .bool (decide (a2 < 1))), (11, .bool (decide (a2 < 1))), (10, .int .i64 a2), (6, .int .i64 0), (0, .str a0), (1, .vec (a1).length 3 ((a1).flatMap e47)), (2, .int .i64 a2)]
      let E9 : Env := [(18, .bool (decide ((a1.length : Int) ≤ a2))), (17, .bool (decide ((a1.length : Int) ≤ a2))), (16, .bool (decide ((a1.length : Int) ≤ a2))), (15, .int .i64 (a1.length : Int)), (14, .vec (a1).length 3 ((a1).flatMap e47)), (13, .int .i64 a2), (12, .bool false), (11, .bool false), (10, .int .i64 a2), (6, .int .i64 0), (0, .str a0), (1, .vec (a1).length 3 ((a1).flatMap e47)), (2, .int .i64 a2)]
      let E11 : Env := [(22, .int .i64 (fW .i64 (a2 - 1))), (21, .int .i64 a2), (20, .vec (a1).length 3 ((a1).flatMap e47)), (19, .str a0), (18, .bool false), (17, .bool false), (16, .bool false), (15, .int .i64 (a1.length : Int)), (14, .vec (a1).length 3 ((a1).flatMap e47)), (13, .int .i64 a2), (12, .bool false), (11, .bool false), (10, .int .i64 a2), (6, .int .i64 0), (0, .str a0), (1, .vec (a1).length 3 ((a1).flatMap e47)), (2, .int .i64 a2)]
      let E12 : Env := ((28, .bool (!x0_15)) :: (27, .bool (!x0_15)) :: (26, .bool (!x0_15)) :: (25, .bool x0_15) :: (24, .agg [.int .i64 x0_13.f0, .str x0_13.f1, .int .i64 x0_13.f2]) :: (23, .vptr [.int .i64 x0_13.f0, .str x0_13.f1, .int .i64 x0_13.f2]) :: E11)
      let E14 : Env := [(31, .int .i64 a2), (30, .vec (a1).length 3 ((a1).flatMap e47)), (29, .str a0), (28, .bool false), (27, .bool false), (26, .bool false), (25, .bool x0_15), (24, .agg [.int .i64 x0_13.f0, .str x0_13.f1, .int .i64 x0_13.f2]), (23, .vptr [.int .i64 x0_13.f0, .str x0_13.f1, .int .i64 x0_13.f2]), (22, .int .i64 (fW .i64 (a2 - 1))), (21, .int .i64 a2), (20, .vec (a1).length 3 ((a1).flatMap e47)), (19, .str a0), (18, .bool false), (17, .bool false), (16, .bool false), (15, .int .i64 (a1.length : Int)), (14, .vec (a1).length 3 ((a1).flatMap e47)), (13, .int .i64 a2), (12, .bool false), (11, .bool false), (10, .int .i64 a2), (6, .int .i64 0), (0, .str a0), (1, .vec (a1).length 3 ((a1).flatMap e47)), (2, .int .i64 a2)]
      let E15 : Env := ((37, .bool (!x0_24)) :: (36, .bool (!x0_24)) :: (35, .bool (!x0_24)) :: (34, .bool x0_24) :: (33, .agg [.int .i64 x0_22.f0, .str x0_22.f1, .int .i64 x0_22.f2]) :: (32, .vptr [.int .i64 x0_22.f0, .str x0_22.f1, .int .i64 x0_22.f2]) :: E14)
      let E17 : Env := [(40, .int .i64 (fW .i64 (a2 - 1))), (39, .int .i64 a2), (38, .vec (a1).length 3 ((a1).flatMap e47)), (37, .bool false), (36, .bool false), (35, .bool false), (34, .bool x0_24), (33, .agg [.int .i64 x0_22.f0, .str x0_22.f1, .int .i64 x0_22.f2]), (32, .vptr [.int .i64 x0_22.f0, .str x0_22.f1, .int .i64 x0_22.f2]), (31, .int .i64 a2), (30, .vec (a1).length 3 ((a1).flatMap e47)), (29, .str a0), (28, .bool false), (27, .bool false), (26, .bool false), (25, .bool x0_15), (24, .agg [.int .i64 x0_13.f0, .str x0_13.f1, .int .i64 x0_13.f2]), (23, .vptr [.int .i64 x0_13.f0, .str x0_13.f1, .int .i64 x0_13.f2]), (22, .int .i64 (fW .i64 (a2 - 1))), (21, .int .i64 a2), (20, .vec (a1).length 3 ((a1).flatMap e47)), (19, .str a0), (18, .bool false), (17, .bool false), (16, .bool false), (15, .int .i64 (a1.length : Int)), (14, .vec (a1).length 3 ((a1).flatMap e47)), (13, .int .i64 a2), (12, .bool false), (11, .bool false), (10, .int .i64 a2), (6, .int .i64 0), (0, .str a0), (1, .vec (a1).length 3 ((a1).flatMap e47)), (2, .int .i64 a2)]
      let E18 : Env := ((45, .int .i64 a2) :: (44, .vec (a1).length 3 ((a1).flatMap e47)) :: (43, .int .i64 x0_33) :: (42, .agg [.int .i64 x0_31.f0, .str x0_31.f1, .int .i64 x0_31.f2]) :: (41, .vptr [.int .i64 x0_31.f0, .str x0_31.f1, .int .i64 x0_31.f2]) :: E17)
      let E19 : Env := ((50, .bool (decide (x0_36.f2 < x0_33))) :: (49, .bool (decide (x0_36.f2 < x0_33))) :: (48, .int .i64 x0_36.f2) :: (47, .vptr [.int .i64 x0_36.f2]) :: (46, .vptr [.int .i64 x0_36.f0, .str x0_36.f1, .int .i64 x0_36.f2]) :: E18)
      refine ok_draw (p' := nav [0] g49p1) (eE := E19) (H' := (mkH [])) (hs := [(mkH []), (mkH []), (mkH [])]) [(0, 0, 0), (1, 0, 0), (3, 0, 0), (7, 0, 0), (7, 0, 0), (23, 0, 0), (63, 0, 0), (127, 0, 0), (255, 0, 0), (511, 0, 0), (511, 0, 0), (511, 0, 0), (2559, 0, 0), (7679, 0, 0), (15871, 0, 0), (32767, 0, 0), (65535, 0, 0), (131071, 0, 0), (262143, 0, 0), (524287, 0, 0), (524287, 0, 0), (524287, 0, 0), (3670015, 0, 0), (7864319, 1, 1), (16777215, 0, 0), (33554431, 0, 0), (67108863, 0, 0), (134217727, 0, 0), (268435455, 0, 0), (268435455, 0, 0), (805306367, 0, 0), (2147483647, 0, 0), (4294967295, 2, 2), (8589934591, 0, 0), (268435455, 0, 0), (268435455, 0, 0), (51808043007, 0, 0), (120527519743, 0, 0), (257966473215, 2, 3), (549755813887, 0, 0), (1099511627775, 0, 0)] (by kernel_rfl) (by kernel_rfl) (by kernel_rfl) (opsD_run 3 (l' := (opsAt g49p1).toList.drop 3) (eE := E7) (H' := (mkH [])) (hs := []) (by kernel_rfl) (opsD_env (eE := [(12, .bool false), (11, .bool false), (10, .int .i64 a2), (6, .int .i64 0), (0, .str a0), (1, .vec (a1).length 3 ((a1).flatMap e47)), (2, .int .i64 a2)]) (congrArg (fun z : Bool => ([(12, .bool z), (11, .bool z), (10, .int .i64 a2), (6, .int .i64 0), (0, .str a0), (1, .vec (a1).length 3 ((a1).flatMap e47)), (2, .int .i64 a2)] : Env)) hb4) (opsD_run 6 (l' := (opsAt g49p1).toList.drop 9) (eE := E9) (H' := (mkH [])) (hs := []) (by kernel_rfl) (opsD_env (eE := [(18, .bool false), (17, .bool false), (16, .bool false), (15, .int .i64 (a1.length : Int)), (14, .vec (a1).length 3 ((a1).flatMap e47)), (13, .int .i64 a2), (12, .bool false), (11, .bool false), (10, .int .i64 a2), (6, .int .i64 0), (0, .str a0), (1, .vec (a1).length 3 ((a1).flatMap e47)), (2, .int .i64 a2)]) (congrArg (fun z : Bool => ([(18, .bool z), (17, .bool z), (16, .bool z), (15, .int .i64 (a1.length : Int)), (14, .vec (a1).length 3 ((a1).flatMap e47)), (13, .int .i64 a2), (12, .bool false), (11, .bool false), (10, .int .i64 a2), (6, .int .i64 0), (0, .str a0), (1, .vec (a1).length 3 ((a1).flatMap e47)), (2, .int .i64 a2)] : Env)) hb5) (opsD_run 4 (l' := (opsAt g49p1).toList.drop 13) (eE := E11) (H' := (mkH [])) (hs := []) (by kernel_rfl) (opsD_chk (l' := (opsAt g49p1).toList.drop 14) (eE := ((23, .vptr [.int .i64 x0_13.f0, .str x0_13.f1, .int .i64 x0_13.f2]) :: E11)) (hs := []) (x := x0_13) (fun (x0_13 : S46) => (.vptr [.int .i64 x0_13.f0, .str x0_13.f1, .int .i64 x0_13.f2], (mkH []))) (vidxH (sz := 3) e47_len (by kernel_rfl)) hx0_13 (by kernel_rfl) (opsD_run 1 (l' := (opsAt g49p1).toList.drop 15) (eE := ((24, .agg [.int .i64 x0_13.f0, .str x0_13.f1, .int .i64 x0_13.f2]) :: (23, .vptr [.int .i64 x0_13.f0, .str x0_13.f1, .int .i64 x0_13.f2]) :: E11)) (H' := (mkH [])) (hs := []) (by kernel_rfl) (opsD_call (l' := (opsAt g49p1).toList.drop 16) (eE := ((25, .bool x0_15) :: (24, .agg [.int .i64 x0_13.f0, .str x0_13.f1, .int .i64 x0_13.f2]) :: (23, .vptr [.int .i64 x0_13.f0, .str x0_13.f1, .int .i64 x0_13.f2]) :: E11)) (hs := [(mkH [])]) (fi := 66) (args := [.str a0, .agg [.int .i64 x0_13.f0, .str x0_13.f1, .int .i64 x0_13.f2]]) (v := .bool x0_15) (by kernel_rfl) (by kernel_rfl) (by kernel_rfl) (g66_ok k a0 (⟨x0_13.f0, x0_13.f1, x0_13.f2⟩ : S46) x0_15 hx0_15) (by kernel_rfl) (opsD_run 3 (l' := (opsAt g49p1).toList.drop 19) (eE := E12) (H' := (mkH [])) (hs := []) (by kernel_rfl) (opsD_env (eE := [(28, .bool false), (27, .bool false), (26, .bool false), (25, .bool x0_15), (24, .agg [.int .i64 x0_13.f0, .str x0_13.f1, .int .i64 x0_13.f2]), (23, .vptr [.int .i64 x0_13.f0, .str x0_13.f1, .int .i64 x0_13.f2]), (22, .int .i64 (fW .i64 (a2 - 1))), (21, .int .i64 a2), (20, .vec (a1).length 3 ((a1).flatMap e47)), (19, .str a0), (18, .bool false), (17, .bool false), (16, .bool false), (15, .int .i64 (a1.length : Int)), (14, .vec (a1).length 3 ((a1).flatMap e47)), (13, .int .i64 a2), (12, .bool false), (11, .bool false), (10, .int .i64 a2), (6, .int .i64 0), (0, .str a0), (1, .vec (a1).length 3 ((a1).flatMap e47)), (2, .int .i64 a2)]) (congrArg (fun z : Bool => ([(28, .bool z), (27, .bool z), (26, .bool z), (25, .bool x0_15), (24, .agg [.int .i64 x0_13.f0, .str x0_13.f1, .int .i64 x0_13.f2]), (23, .vptr [.int .i64 x0_13.f0, .str x0_13.f1, .int .i64 x0_13.f2]), (22, .int .i64 (fW .i64 (a2 - 1))), (21, .int .i64 a2), (20, .vec (a1).length 3 ((a1).flatMap e47)), (19, .str a0), (18, .bool false), (17, .bool false), (16, .bool false), (15, .int .i64 (a1.length : Int)), (14, .vec (a1).length 3 ((a1).flatMap e47)), (13, .int .i64 a2), (12, .bool false), (11, .bool false), (10, .int .i64 a2), (6, .int .i64 0), (0, .str a0), (1, .vec (a1).length 3 ((a1).flatMap e47)), (2, .int .i64 a2)] : Env)) hb6) (opsD_run 3 (l' := (opsAt g49p1).toList.drop 22) (eE := E14) (H' := (mkH [])) (hs := []) (by kernel_rfl) (opsD_chk (l' := (opsAt g49p1).toList.drop 23) (eE := ((32, .vptr [.int .i64 x0_22.f0, .str x0_22.f1, .int .i64 x0_22.f2]) :: E14)) (hs := []) (x := x0_22) (fun (x0_22 : S46) => (.vptr [.int .i64 x0_22.f0, .str x0_22.f1, .int .i64 x0_22.f2], (mkH []))) (vidxH (sz := 3) e47_len (by kernel_rfl)) hx0_22 (by kernel_rfl) (opsD_run 1 (l' := (opsAt g49p1).toList.drop 24) (eE := ((33, .agg [.int .i64 x0_22.f0, .str x0_22.f1, .int .i64 x0_22.f2]) :: (32, .vptr [.int .i64 x0_22.f0, .str x0_22.f1, .int .i64 x0_22.f2]) :: E14)) (H' := (mkH [])) (hs := []) (by kernel_rfl) (opsD_call (l' := (opsAt g49p1).toList.drop 25) (eE := ((34, .bool x0_24) :: (33, .agg [.int .i64 x0_22.f0, .str x0_22.f1, .int .i64 x0_22.f2]) :: (32, .vptr [.int .i64 x0_22.f0, .str x0_22.f1, .int .i64 x0_22.f2]) :: E14)) (hs := [(mkH [])]) (fi := 66) (args := [.str a0, .agg [.int .i64 x0_22.f0, .str x0_22.f1, .int .i64 x0_22.f2]]) (v := .bool x0_24) (by kernel_rfl) (by kernel_rfl) (by kernel_rfl) (g66_ok k a0 (⟨x0_22.f0, x0_22.f1, x0_22.f2⟩ : S46) x0_24 hx0_24) (by kernel_rfl) (opsD_run 3 (l' := (opsAt g49p1).toList.drop 28) (eE := E15) (H' := (mkH [])) (hs := []) (by kernel_rfl) (opsD_env (eE := [(37, .bool false), (36, .bool false), (35, .bool false), (34, .bool x0_24), (33, .agg [.int .i64 x0_22.f0, .str x0_22.f1, .int .i64 x0_22.f2]), (32, .vptr [.int .i64 x0_22.f0, .str x0_22.f1, .int .i64 x0_22.f2]), (31, .int .i64 a2), (30, .vec (a1).length 3 ((a1).flatMap e47)), (29, .str a0), (28, .bool false), (27, .bool false), (26, .bool false), (25, .bool x0_15), (24, .agg [.int .i64 x0_13.f0, .str x0_13.f1, .int .i64 x0_13.f2]), (23, .vptr [.int .i64 x0_13.f0, .str x0_13.f1, .int .i64 x0_13.f2]), (22, .int .i64 (fW .i64 (a2 - 1))), (21, .int .i64 a2), (20, .vec (a1).length 3 ((a1).flatMap e47)), (19, .str a0), (18, .bool false), (17, .bool false), (16, .bool false), (15, .int .i64 (a1.length : Int)), (14, .vec (a1).length 3 ((a1).flatMap e47)), (13, .int .i64 a2), (12, .bool false), (11, .bool false), (10, .int .i64 a2), (6, .int .i64 0), (0, .str a0), (1, .vec (a1).length 3 ((a1).flatMap e47)), (2, .int .i64 a2)]) (congrArg (fun z : Bool => ([(37, .bool z), (36, .bool z), (35, .bool z), (34, .bool x0_24), (33, .agg [.int .i64 x0_22.f0, .str x0_22.f1, .int .i64 x0_22.f2]), (32, .vptr [.int .i64 x0_22.f0, .str x0_22.f1, .int .i64 x0_22.f2]), (31, .int .i64 a2), (30, .vec (a1).length 3 ((a1).flatMap e47)), (29, .str a0), (28, .bool false), (27, .bool false), (26, .bool false), (25, .bool x0_15), (24, .agg [.int .i64 x0_13.f0, .str x0_13.f1, .int .i64 x0_13.f2]), (23, .vptr [.int .i64 x0_13.f0, .str x0_13.f1, .int .i64 x0_13.f2]), (22, .int .i64 (fW .i64 (a2 - 1))), (21, .int .i64 a2), (20, .vec (a1).length 3 ((a1).flatMap e47)), (19, .str a0), (18, .bool false), (17, .bool false), (16, .bool false), (15, .int .i64 (a1.length : Int)), (14, .vec (a1).length 3 ((a1).flatMap e47)), (13, .int .i64 a2), (12, .bool false), (11, .bool false), (10, .int .i64 a2), (6, .int .i64 0), (0, .str a0), (1, .vec (a1).length 3 ((a1).flatMap e47)), (2, .int .i64 a2)] : Env)) hb7) (opsD_run 3 (l' := (opsAt g49p1).toList.drop 31) (eE := E17) (H' := (mkH [])) (hs := []) (by kernel_rfl) (opsD_chk (l' := (opsAt g49p1).toList.drop 32) (eE := ((41, .vptr [.int .i64 x0_31.f0, .str x0_31.f1, .int .i64 x0_31.f2]) :: E17)) (hs := []) (x := x0_31) (fun (x0_31 : S46) => (.vptr [.int .i64 x0_31.f0, .str x0_31.f1, .int .i64 x0_31.f2], (mkH []))) (vidxH (sz := 3) e47_len (by kernel_rfl)) hx0_31 (by kernel_rfl) (opsD_run 1 (l' := (opsAt g49p1).toList.drop 33) (eE := ((42, .agg [.int .i64 x0_31.f0, .str x0_31.f1, .int .i64 x0_31.f2]) :: (41, .vptr [.int .i64 x0_31.f0, .str x0_31.f1, .int .i64 x0_31.f2]) :: E17)) (H' := (mkH [])) (hs := []) (by kernel_rfl) (opsD_call (l' := (opsAt g49p1).toList.drop 34) (eE := ((43, .int .i64 x0_33) :: (42, .agg [.int .i64 x0_31.f0, .str x0_31.f1, .int .i64 x0_31.f2]) :: (41, .vptr [.int .i64 x0_31.f0, .str x0_31.f1, .int .i64 x0_31.f2]) :: E17)) (hs := [(mkH [])]) (fi := 38) (args := [.agg [.int .i64 x0_31.f0, .str x0_31.f1, .int .i64 x0_31.f2]]) (v := .int .i64 x0_33) (by kernel_rfl) (by kernel_rfl) (by kernel_rfl) (g38_ok k (⟨x0_31.f0, x0_31.f1, x0_31.f2⟩ : S46) x0_33 hx0_33) (by kernel_rfl) (opsD_run 2 (l' := (opsAt g49p1).toList.drop 36) (eE := E18) (H' := (mkH [])) (hs := []) (by kernel_rfl) (opsD_chk (l' := (opsAt g49p1).toList.drop 37) (eE := ((46, .vptr [.int .i64 x0_36.f0, .str x0_36.f1, .int .i64 x0_36.f2]) :: E18)) (hs := []) (x := x0_36) (fun (x0_36 : S46) => (.vptr [.int .i64 x0_36.f0, .str x0_36.f1, .int .i64 x0_36.f2], (mkH []))) (vidxH (sz := 3) e47_len (by kernel_rfl)) hx0_36 (by kernel_rfl) (opsD_run 4 (l' := (opsAt g49p1).toList.drop 41) (eE := E19) (H' := (mkH [])) (hs := []) (by kernel_rfl) (.nil)))))))))))))))))))))))) (by kernel_rfl) (by kernel_rfl) (by kernel_rfl) ?_
      refine oK [0, 1, 2, 50] (eE := [(0, .str a0), (1, .vec (a1).length 3 ((a1).flatMap e47)), (2, .int .i64 a2), (50, .bool (decide (x0_36.f2 < x0_33)))]) (by kernel_rfl) ?_
      exact hj4 (decide (x0_36.f2 < x0_33))
end
end Go.Proofs.Ytbmijiibfaacmaa.Am
set_option maxRecDepth 100000
set_option linter.unusedVariables false
namespace Go.Proofs.Ytbmijiibfaacmaa.Am
noncomputable section
open Go
def X37 : Fx Bool := ⟨Try.prog, cx, Try.f37, fun r => .bool r, 0, fun _ => H0, cxTi, cxOrd⟩
def g37p0 : Pt := nav [0] (bodyAt Try.f37)
def g37p1 : Pt := nav [0, 0, 0] g37p0
def g37 (k : Nat) (a0 : (List Nat)) (a1 : (List S46)) (a2 : Int) : Option Bool :=
 (g49 k a0 a1 a2).bind fun x0_3 => some (decide (1 < x0_3))
theorem g37_ok (k : Nat) (a0 : (List Nat)) (a1 : (List S46)) (a2 : Int) (r : Bool) (h : g37 k a0 a1 a2 = some r) : PureOk Try.prog 37 [.str a0, .vec (a1).length 3 ((a1).flatMap e47), .int .i64 a2] (.bool r) := by
 refine pure_of X37 (fun _ => rfl) Try.func37 (by decide +kernel) (by kernel_rfl) (t := g37 k a0 a1 a2) ?_ h
 unfold g37
 refine oE (eE := [(0, .str a0), (1, .vec (a1).length 3 ((a1).flatMap e47)), (2, .int .i64 a2)]) (by kernel_rfl) ?_
 let E1 : Env := [(9, .int .i64 a2), (8, .vec (a1).length 3 ((a1).flatMap e47)), (7, .str a0), (6, .bool false), (0, .str a0), (1, .vec (a1).length 3 ((a1).flatMap e47)), (2, .int .i64 a2)]
 refine oR 9 (p' := (atN 3 (ctl1 g37p1))) (eE := E1) (H' := (mkH [])) (by kernel_rfl) ?_
 refine oC (fun (x0_3 : Int) => .int .i64 x0_3) (atN 4 (ctl1 g37p1)) (fun x0_3 => ((10, .int .i64 x0_3) :: E1)) (fi := 49) (args := [.str a0, .vec (a1).length 3 ((a1).flatMap e47), .int .i64 a2]) (by kernel_rfl) (by kernel_rfl) (fun _ => by kernel_rfl) (fun r h => g49_ok k a0 a1 a2 r h) (fun _ => by kernel_rfl) (fun x0_3 hx0_3 => ?_)
 refine oR 4 (p' := .fin) (eE := ((6, .bool (decide (1 < x0_3))) :: (11, .bool (decide (1 < x0_3))) :: (10, .int .i64 x0_3) :: E1)) (H' := (mkH [])) (by kernel_rfl) ?_
 exact oT (r := (decide (1 < x0_3))) (xs := [.bool (decide (1 < x0_3))]) (v := .bool (decide (1 < x0_3))) (by kernel_rfl) (by kernel_rfl) (by kernel_rfl) (.pures (by kernel_rfl)) (by kernel_rfl)
end
end Go.Proofs.Ytbmijiibfaacmaa.Am
set_option maxRecDepth 100000
set_option linter.unusedVariables false
set_option linter.unusedSimpArgs false
namespace Go.Proofs.Ytbmijiibfaacmaa.Am
open Go
def nlF (s : List Nat) (e : Nat) : Nat → Nat → Nat
 | 0, _ => 0
 | d + 1, i => if e ≤ i then 0 else (match s.drop i with | c :: _ => if c = 10 then 1 else 0 | [] => 0) + nlF s e d (i + 1)
def gapN (s : List Nat) (l : List (Nat × Nat × Nat)) (k : Nat) : Nat := match l.drop (k - 1) with | x :: y :: _ => nlF s y.2.1 (y.2.1 - (x.2.1 + x.2.2)) (x.2.1 + x.2.2) | _ => 0
def gapI (s : List Nat) (l : List (Nat × Nat × Nat)) (k : Int) : Nat := if 1 ≤ k ∧ k < l.length then gapN s l k.toNat else 0
theorem toks_pair {s : List Nat} : ∀ {l : List (Nat × Nat × Nat)} {a i : Nat} {x y : Nat × Nat × Nat} {r : List (Nat × Nat × Nat)}, Toks s a l → l.drop i = x :: y :: r → x.2.1 + x.2.2 ≤ y.2.1
 | [], a, i, x, y, r, h, hd => by simp at hd
 | z :: l, a, 0, x, y, r, h, hd => by
  rw [List.drop_zero] at hd
  obtain ⟨rfl, rfl⟩ := List.cons.inj hd
  simp only [Toks] at h
  omega
 | z :: l, a, i + 1, x, y, r, h, hd => by
  rw [List.drop_succ_cons] at hd
  simp only [Toks] at h
  exact toks_pair h.2.2.2.2 hd
theorem map_drop' {α β : Type} {f : α → β} {l : List α} {i : Nat} {x : α} {r : List α} (h : l.drop i = x :: r) : nthL (l.map f) (i : Int) = some (f x) := by
 refine nthL_at (r := r.map f) ?_
 rw [← List.map_drop, h]; rfl
theorem pair_at {l : List (Nat × Nat × Nat)} {k : Nat} (h1 : 1 ≤ k) (h2 : k < l.length) : ∃ x y r, l.drop (k - 1) = x :: y :: r ∧ l.drop k = y :: r ∧ x ∈ l ∧ y ∈ l := by
 obtain ⟨x, r, hx, hr, hxm, -⟩ := dconsL (s := l) (i := k - 1) (by omega)
 obtain ⟨y, r2, hy, -, hym, -⟩ := dconsL (s := l) (i := k) h2
 rw [show k - 1 + 1 = k by omega, hy] at hr
 exact ⟨x, y, r2, by rw [hx, ← hr], hy, hxm, hym⟩
theorem tok_end {s : List Nat} {x : Nat × Nat × Nat} (h : x.2.1 + x.2.2 ≤ s.length) : (mkTok s x).f2 + ((mkTok s x).f1.length : Int) = ((x.2.1 + x.2.2 : Nat) : Int) := by
 have : ((s.drop x.2.1).take x.2.2).length = x.2.2 := by rw [List.length_take, List.length_drop]; omega
 show (x.2.1 : Int) + (((s.drop x.2.1).take x.2.2).length : Int) = _
 rw [this]; push_cast; rfl
theorem ends_l (k : Nat) {s : List Nat} (hl : s.length ≤ 2000) {L : List S46} {kk : Int} {y : Nat × Nat × Nat} (hk : nthL L kk = some (mkTok s y)) (hy : y.2.1 ≤ s.length) : ∀ (d f i c : Nat), i + d = y.2.1 → d < f → c ≤ i →
 g49_l5 k s L kk f (i : Int) (c : Int) = some ((c + nlF s y.2.1 d i : Nat) : Int)
 | 0, f, i, c, h, hf, hc => by
  obtain ⟨f, rfl⟩ : ∃ g, f = g + 1 := ⟨f - 1, by omega⟩
  rw [g49_l5_s]
  refine bS (by (try simp (disch := omega) only [fwI]); exact hk) ?_
  refine iF (dF (show ¬ (i : Int) < (y.2.1 : Int) by omega)) ?_
  rfl
 | d + 1, f, i, c, h, hf, hc => by
  obtain ⟨f, rfl⟩ : ∃ g, f = g + 1 := ⟨f - 1, by omega⟩
  rw [g49_l5_s]
  refine bS (by (try simp (disch := omega) only [fwI]); exact hk) ?_
  obtain ⟨b, r, hb, -, -, -⟩ := dcons (s := s) (i := i) (by omega)
  have nb := nthX (x := (i : Int)) rfl hb
  refine iT (dT (show (i : Int) < (y.2.1 : Int) by omega)) ?_
  refine bS (by (try simp (disch := omega) only [fwI]); exact nb) ?_
  have gc : g49f67_0 k (b : Int) (c : Int) = some ((c + (if b = 10 then 1 else 0) : Nat) : Int) := by
   unfold g49f67_0
   by_cases h10 : b = 10
   ·rw [if_pos h10]
    refine iT (dT (by omega)) ?_
    rw [fw_s (by omega)]
   ·rw [if_neg h10]
    exact iF (dF (by omega)) rfl
  refine bS (by (try simp (disch := omega) only [fwI]); exact gc) ?_
  simp only [nlF]
  rw [if_neg (show ¬ y.2.1 ≤ i by omega), hb, fw_s (n := i) (by omega)]
  simp only []
  clear gc
  have hle : (if b = 10 then 1 else 0) ≤ 1 := by split <;> omega
  generalize (if b = 10 then 1 else 0) = z at *
  have ih := ends_l k hl hk hy d f (i + 1) (c + z) (by omega) (by omega) (by omega)
  exact ih.trans (sn (by omega))
theorem in_at {k : Nat} {s : List Nat} (hl : s.length ≤ 2000) {x : Nat × Nat × Nat} (h : x.2.1 + x.2.2 ≤ s.length) : g66 k s (⟨(mkTok s x).f0, (mkTok s x).f1, (mkTok s x).f2⟩ : S46) = some true := by
 have tl : ((s.drop x.2.1).take x.2.2).length = x.2.2 := by rw [List.length_take, List.length_drop]; omega
 unfold g66
 refine iT (dT (show (0 : Int) ≤ (x.2.1 : Int) by omega)) ?_
 refine iT (dT (show (x.2.1 : Int) ≤ (s.length : Int) by omega)) ?_
 show some (decide ((((s.drop x.2.1).take x.2.2).length : Int) ≤ fW .i64 ((s.length : Int) - (x.2.1 : Int)))) = _
 rw [tl, fw_d (by omega) (by omega), dT (by omega)]
theorem gend_at {k : Nat} {s : List Nat} (hl : s.length ≤ 2000) {x : Nat × Nat × Nat} (h : x.2.1 + x.2.2 ≤ s.length) : g38 k (⟨(mkTok s x).f0, (mkTok s x).f1, (mkTok s x).f2⟩ : S46) = some ((x.2.1 + x.2.2 : Nat) : Int) := by
 unfold g38
 show some (fW .i64 ((mkTok s x).f2 + ((mkTok s x).f1.length : Int))) = _
 rw [tok_end h, fwI (by omega) (by omega)]
theorem ends_at {k : Nat} {s : List Nat} (hk : s.length + 10 ≤ k) (hl : s.length ≤ 2000) {l : List (Nat × Nat × Nat)} (ht : Toks s 0 l) (kk : Int) : g49 k s (l.map (mkTok s)) kk = some ((gapI s l kk : Nat) : Int) := by
 unfold g49 gapI
 have ll : ((l.map (mkTok s)).length : Int) = (l.length : Int) := by simp
 by_cases h : 1 ≤ kk ∧ kk < l.length
 ·rw [if_pos h]
  obtain ⟨n, rfl⟩ : ∃ n : Nat, kk = (n : Int) := ⟨kk.toNat, by omega⟩
  obtain ⟨x, y, r, h1, h2, h3, h4⟩ := pair_at (l := l) (k := n) (by omega) (by omega)
  have bx := toks_bounds ht (Nat.zero_le _) x h3
  have bY := toks_bounds ht (Nat.zero_le _) y h4
  have cl : l.length ≤ s.length := toks_len s (s.length + 1) 0 l ((toks_iff s (s.length + 1) 0 l (by omega)).2 ht) (Nat.zero_le _)
  have pr := toks_pair ht h1
  have e1 := fun _ : Unit => (show fW .i64 ((n : Int) - 1) = ((n - 1 : Nat) : Int) from by rw [fwI (by omega) (by omega)]; omega)
  refine (jS (v := false) (fun j => ?_)).trans ?_
  ·refine iF (dF (by omega)) ?_
   refine iF (dF (by omega)) ?_
   rw [e1 ()]
   refine bS (by (try simp (disch := omega) only [fwI]); exact map_drop' h1) ?_
   refine bS (by (try simp (disch := omega) only [fwI]); exact in_at hl bx.2.1) ?_
   refine iF rfl ?_
   refine bS (by (try simp (disch := omega) only [fwI]); exact map_drop' h2) ?_
   refine bS (by (try simp (disch := omega) only [fwI]); exact in_at hl bY.2.1) ?_
   refine iF rfl ?_
   refine bS (by (try simp (disch := omega) only [fwI]); exact map_drop' h1) ?_
   refine bS (by (try simp (disch := omega) only [fwI]); exact gend_at hl bx.2.1) ?_
   refine bS (by (try simp (disch := omega) only [fwI]); exact map_drop' h2) ?_
   rw [show (mkTok s y).f2 = (y.2.1 : Int) from rfl, dF (show ¬ (y.2.1 : Int) < ((x.2.1 + x.2.2 : Nat) : Int) by omega)]
  ·refine iF rfl ?_
   rw [e1 ()]
   refine bS (by (try simp (disch := omega) only [fwI]); exact map_drop' h1) ?_
   refine bS (by (try simp (disch := omega) only [fwI]); exact gend_at hl bx.2.1) ?_
   refine (ends_l k hl (map_drop' h2) (by omega) (y.2.1 - (x.2.1 + x.2.2)) k (x.2.1 + x.2.2) 0 (by omega) (by omega) (by omega)).trans ?_
   rw [Int.toNat_natCast]
   unfold gapN
   rw [h1, Nat.zero_add]
 ·rw [if_neg h]
  refine (jS (v := true) (fun j => ?_)).trans rfl
  by_cases h1 : kk < 1
  ·exact iT (dT h1) rfl
  ·refine iF (dF h1) ?_
   exact iT (dT (by omega)) rfl
theorem gblank_at {k : Nat} {s : List Nat} (hk : s.length + 10 ≤ k) (hl : s.length ≤ 2000) {l : List (Nat × Nat × Nat)} (ht : Toks s 0 l) (kk : Int) : g37 k s (l.map (mkTok s)) kk = some (decide (2 ≤ ((gapI s l kk : Nat) : Int))) := by
 unfold g37
 refine bS (by (try simp (disch := omega) only [fwI]); exact ends_at hk hl ht kk) ?_
 have : decide ((1 : Int) < ((gapI s l kk : Nat) : Int)) = decide (2 ≤ ((gapI s l kk : Nat) : Int)) := by rw [Bool.eq_iff_iff]; simp; omega
 rw [this]
end Go.Proofs.Ytbmijiibfaacmaa.Am
set_option maxRecDepth 100000
set_option linter.unusedVariables false
namespace Go.Proofs.Ytbmijiibfaacmaa.Am
noncomputable section
open Go
def X29 : Fx (List S36) := ⟨Try.prog, cx, Try.f29, fun r => .vec (r).length 4 ((r).flatMap e37), 0, fun _ => H0, cxTi, cxOrd⟩
def X29f47_1 (a_0 : Int) (a_1 : Int) (a_2 : Bool) (b_3 : (List Nat)) (b_4 : (List S46)) (b3 : (List S36)) : Fx (List S36) := ⟨Try.prog, cx, Try.f47, fun r => .tuple [], 4, fun r => (mkH [⟨[.str b_3], 0, false⟩, ⟨[.vec (b_4).length 3 ((b_4).flatMap e47)], 0, false⟩, ⟨[.own 3 (r).length 4], 1, false⟩, ⟨(r).flatMap e37, 0, false⟩]), cxTi, cxOrd⟩
def g29f47_1p0 : Pt := nav [] (bodyAt Try.f47)
def g29f47_1 (k : Nat) (a_0 : Int) (a_1 : Int) (a_2 : Bool) (b_3 : (List Nat)) (b_4 : (List S46)) (b3 : (List S36)) : Option (List S36) :=
 (g37 k b_3 b_4 a_0).bind fun x0_7 => (appS 24 b3 ([(⟨a_0, a_1, a_2, x0_7⟩ : S36)] : List S36)).bind fun x0_10 => some x0_10
theorem g29f47_1_ok (k : Nat) (a_0 : Int) (a_1 : Int) (a_2 : Bool) (b_3 : (List Nat)) (b_4 : (List S46)) (b3 : (List S36)) (r : (List S36)) (h : g29f47_1 k a_0 a_1 a_2 b_3 b_4 b3 = some r) : CallV Try.prog 47 [.int .i64 a_0, .int .i64 a_1, .bool a_2, .ptr 2 1 0, .ptr 0 1 0, .ptr 1 1 0] (mkH [⟨[.str b_3], 0, false⟩, ⟨[.vec (b_4).length 3 ((b_4).flatMap e47)], 0, false⟩, ⟨[.own 3 (b3).length 4], 1, false⟩, ⟨(b3).flatMap e37, 0, false⟩]) (.tuple []) (mkH [⟨[.str b_3], 0, false⟩, ⟨[.vec (b_4).length 3 ((b_4).flatMap e47)], 0, false⟩, ⟨[.own 3 (r).length 4], 1, false⟩, ⟨(r).flatMap e37, 0, false⟩]) := by
 refine callM_of (X29f47_1 a_0 a_1 a_2 b_3 b_4 b3) Try.func47 (by kernel_rfl) (by kernel_rfl) rfl (t := g29f47_1 k a_0 a_1 a_2 b_3 b_4 b3) ?_ h
 unfold g29f47_1
 refine oE (eE := [(0, .int .i64 a_0), (1, .int .i64 a_1), (2, .bool a_2), (3, .ptr 2 1 0), (4, .ptr 0 1 0), (5, .ptr 1 1 0)]) (by kernel_rfl) ?_
 refine ok_bind (fun x0_7 hx0_7 => ?_)
 refine ok_bind (fun x0_10 hx0_10 => ?_)
 let E1 : Env := [(15, .int .i64 a_0), (14, .vec (b_4).length 3 ((b_4).flatMap e47)), (13, .str b_3), (12, .bool a_2), (11, .int .i64 a_1), (10, .int .i64 a_0), (9, .own 3 (b3).length 4), (0, .int .i64 a_0), (1, .int .i64 a_1), (2, .bool a_2), (3, .ptr 2 1 0), (4, .ptr 0 1 0), (5, .ptr 1 1 0)]
 refine ok_draw (p' := nav [0] g29f47_1p0) (eE := ((19, .own 3 (x0_10).length 4) :: (18, .slice 4 4 0 1 4) :: (17, .agg [.int .i64 a_0, .int .i64 a_1, .bool a_2, .bool x0_7]) :: (16, .bool x0_7) :: E1)) (H' := (mkH [⟨[.str b_3], 0, false⟩, ⟨[.vec (b_4).length 3 ((b_4).flatMap e47)], 0, false⟩, ⟨[.own 3 (x0_10).length 4], 1, false⟩, ⟨(x0_10).flatMap e37, 0, false⟩, ⟨[.int .i64 a_0, .int .i64 a_1, .bool a_2, .bool x0_7], 0, false⟩])) (hs := [(mkH [⟨[.str b_3], 0, false⟩, ⟨[.vec (b_4).length 3 ((b_4).flatMap e47)], 0, false⟩, ⟨[.own 3 (b3).length 4], 1, false⟩, ⟨(b3).flatMap e37, 0, false⟩]), (mkH [⟨[.str b_3], 0, false⟩, ⟨[.vec (b_4).length 3 ((b_4).flatMap e47)], 0, false⟩, ⟨[.own 3 (b3).length 4], 1, false⟩, ⟨(b3).flatMap e37, 0, false⟩, ⟨[.int .i64 a_0, .int .i64 a_1, .bool a_2, .bool x0_7], 0, false⟩]), (mkH [⟨[.str b_3], 0, false⟩, ⟨[.vec (b_4).length 3 ((b_4).flatMap e47)], 0, false⟩, ⟨[.own 3 (b3).length 4], 1, false⟩, ⟨(x0_10).flatMap e37, 0, false⟩, ⟨[.int .i64 a_0, .int .i64 a_1, .bool a_2, .bool x0_7], 0, false⟩]), (mkH [⟨[.str b_3], 0, false⟩, ⟨[.vec (b_4).length 3 ((b_4).flatMap e47)], 0, false⟩, ⟨[.own 3 (x0_10).length 4], 1, false⟩, ⟨(x0_10).flatMap e37, 0, false⟩, ⟨[.int .i64 a_0, .int .i64 a_1, .bool a_2, .bool x0_7], 0, false⟩])]) [(0, 0, 2), (0, 0, 0), (0, 0, 0), (0, 0, 0), (0, 0, 0), (0, 0, 0), (0, 0, 0), (112, 0, 0), (254, 0, 0), (510, 0, 0), (1023, 0, 0), (2047, 0, 0)] (by kernel_rfl) (by kernel_rfl) (by kernel_rfl) (opsD_run 7 (l' := (opsAt g29f47_1p0).toList.drop 7) (eE := E1) (H' := (mkH [⟨[.str b_3], 0, false⟩, ⟨[.vec (b_4).length 3 ((b_4).flatMap e47)], 0, false⟩, ⟨[.own 3 (b3).length 4], 1, false⟩, ⟨(b3).flatMap e37, 0, false⟩])) (hs := []) (by kernel_rfl) (opsD_call (l' := (opsAt g29f47_1p0).toList.drop 8) (eE := ((16, .bool x0_7) :: E1)) (hs := [(mkH [⟨[.str b_3], 0, false⟩, ⟨[.vec (b_4).length 3 ((b_4).flatMap e47)], 0, false⟩, ⟨[.own 3 (b3).length 4], 1, false⟩, ⟨(b3).flatMap e37, 0, false⟩])]) (fi := 37) (args := [.str b_3, .vec (b_4).length 3 ((b_4).flatMap e47), .int .i64 a_0]) (v := .bool x0_7) (by kernel_rfl) (by kernel_rfl) (by kernel_rfl) (g37_ok k b_3 b_4 a_0 x0_7 hx0_7) (by kernel_rfl) (opsD_run 2 (l' := (opsAt g29f47_1p0).toList.drop 10) (eE := ((18, .slice 4 4 0 1 4) :: (17, .agg [.int .i64 a_0, .int .i64 a_1, .bool a_2, .bool x0_7]) :: (16, .bool x0_7) :: E1)) (H' := (mkH [⟨[.str b_3], 0, false⟩, ⟨[.vec (b_4).length 3 ((b_4).flatMap e47)], 0, false⟩, ⟨[.own 3 (b3).length 4], 1, false⟩, ⟨(b3).flatMap e37, 0, false⟩, ⟨[.int .i64 a_0, .int .i64 a_1, .bool a_2, .bool x0_7], 0, false⟩])) (hs := [(mkH [⟨[.str b_3], 0, false⟩, ⟨[.vec (b_4).length 3 ((b_4).flatMap e47)], 0, false⟩, ⟨[.own 3 (b3).length 4], 1, false⟩, ⟨(b3).flatMap e37, 0, false⟩, ⟨[.int .i64 a_0, .int .i64 a_1, .bool a_2, .bool x0_7], 0, false⟩])]) (by kernel_rfl) (opsD_chk (l' := (opsAt g29f47_1p0).toList.drop 11) (eE := ((19, .own 3 (x0_10).length 4) :: (18, .slice 4 4 0 1 4) :: (17, .agg [.int .i64 a_0, .int .i64 a_1, .bool a_2, .bool x0_7]) :: (16, .bool x0_7) :: E1)) (hs := [(mkH [⟨[.str b_3], 0, false⟩, ⟨[.vec (b_4).length 3 ((b_4).flatMap e47)], 0, false⟩, ⟨[.own 3 (b3).length 4], 1, false⟩, ⟨(x0_10).flatMap e37, 0, false⟩, ⟨[.int .i64 a_0, .int .i64 a_1, .bool a_2, .bool x0_7], 0, false⟩])]) (x := x0_10) (fun (x0_10 : (List S36)) => (.own 3 (x0_10).length 4, (mkH [⟨[.str b_3], 0, false⟩, ⟨[.vec (b_4).length 3 ((b_4).flatMap e47)], 0, false⟩, ⟨[.own 3 (b3).length 4], 1, false⟩, ⟨(x0_10).flatMap e37, 0, false⟩, ⟨[.int .i64 a_0, .int .i64 a_1, .bool a_2, .bool x0_7], 0, false⟩]))) (appH (sz := 4) e37_len rfl e37_one [⟨[.str b_3], 0, false⟩, ⟨[.vec (b_4).length 3 ((b_4).flatMap e47)], 0, false⟩, ⟨[.own 3 (b3).length 4], 1, false⟩, ⟨(b3).flatMap e37, 0, false⟩, ⟨[.int .i64 a_0, .int .i64 a_1, .bool a_2, .bool x0_7], 0, false⟩] 3 24 b3 ([(⟨a_0, a_1, a_2, x0_7⟩ : S36)] : List S36) rfl rfl (by kernel_rfl)) hx0_10 (by kernel_rfl) (opsD_run 1 (l' := (opsAt g29f47_1p0).toList.drop 12) (eE := ((19, .own 3 (x0_10).length 4) :: (18, .slice 4 4 0 1 4) :: (17, .agg [.int .i64 a_0, .int .i64 a_1, .bool a_2, .bool x0_7]) :: (16, .bool x0_7) :: E1)) (H' := (mkH [⟨[.str b_3], 0, false⟩, ⟨[.vec (b_4).length 3 ((b_4).flatMap e47)], 0, false⟩, ⟨[.own 3 (x0_10).length 4], 1, false⟩, ⟨(x0_10).flatMap e37, 0, false⟩, ⟨[.int .i64 a_0, .int .i64 a_1, .bool a_2, .bool x0_7], 0, false⟩])) (hs := [(mkH [⟨[.str b_3], 0, false⟩, ⟨[.vec (b_4).length 3 ((b_4).flatMap e47)], 0, false⟩, ⟨[.own 3 (x0_10).length 4], 1, false⟩, ⟨(x0_10).flatMap e37, 0, false⟩, ⟨[.int .i64 a_0, .int .i64 a_1, .bool a_2, .bool x0_7], 0, false⟩])]) (by kernel_rfl) (.nil)))))) (by kernel_rfl) (by kernel_rfl) (by kernel_rfl) ?_
 refine oK [] (eE := []) (by kernel_rfl) ?_
 refine ok_cut [⟨[.str b_3], 0, false⟩, ⟨[.vec (b_4).length 3 ((b_4).flatMap e47)], 0, false⟩, ⟨[.own 3 (x0_10).length 4], 1, false⟩, ⟨(x0_10).flatMap e37, 0, false⟩] [⟨[.int .i64 a_0, .int .i64 a_1, .bool a_2, .bool x0_7], 0, false⟩] (by kernel_rfl) rfl (by kernel_rfl) ⟨(by kernel_rfl), ⟨(by kernel_rfl), ⟨(by kernel_rfl), ⟨(purs_belows _ (purs_flatMap e37_pur _)), trivial⟩⟩⟩⟩ ?_
 exact ok_retM (r := x0_10) (xs := []) (by kernel_rfl) (by kernel_rfl) (by kernel_rfl) (by kernel_rfl)
def g29p0 : Pt := nav [0] (bodyAt Try.f29)
def g29p1 : Pt := nav [0, 0, 0] g29p0
def g29p2 : Pt := nav [0, 0, 0] g29p1
def g29p3 : Pt := nav [0, 0, 0, 0] g29p2
def g29p4 : Pt := nav [0, 0, 0, 0] g29p3
def g29p5 : Pt := nav [0, 0, 0] g29p4
def g29p6 : Pt := nav [0, 0] g29p5
def g29p7 : Pt := nav [1, 0, 0, 0, 0] g29p6
def g29p9 : Pt := nav [0, 0] g29p7
def g29p11 : Pt := nav [1, 0] g29p9
def g29p12 : Pt := nav [2, 0, 0] g29p9
def g29p13 : Pt := nav [0, 0, 0] g29p11
def g29p14 : Pt := nav [0, 0, 0, 0, 0] g29p12
def g29p15 : Pt := nav [0, 0, 0] g29p14
def g29p16 : Pt := nav [0, 0] g29p15
def g29p17 : Pt := nav [1, 0, 0, 0, 0, 0] g29p16
def g29p18 : Pt := nav [2, 0, 0] g29p16
def g29p19 : Pt := nav [0, 0] g29p17
def g29p22 : Pt := nav [2, 0, 0] g29p19
def g29p23 : Pt := nav [0, 0] g29p22
def g29_l6 (k : Nat) (c5 : Int → (List S36) → Option (List S36)) (a0 : (List Nat)) (a1 : (List S46)) (y5_0 : Int) (n : Nat) : Int → Int → Int → (List S36) → Option (List S36) :=
 Nat.rec (motive := fun _ => Int → Int → Int → (List S36) → Option (List S36)) (fun _ _ _ _ => none) (fun _ ih => fun (y6_0 : Int) (y6_1 : Int) (y6_2 : Int) (y6_3 : (List S36)) => jn (fun (z8 : Int × Int × (List S36)) => (g29f47_1 k z8.2.1 z8.1 false a0 a1 z8.2.2).bind fun x4_3 => c5 z8.1 x4_3) (fun j8 => if (decide (y6_0 < (a1.length : Int))) then ((nthL a1 y6_0).bind fun x2_2 => jn (fun (z7 : Int × Int × Int × (List S36)) => (nthL a1 z7.2.1).bind fun x3_2 => if (decide (x3_2.f0 = 10)) then (j8 (z7.1, z7.2.2.1, z7.2.2.2)) else (ih (fW .i64 (z7.2.1 + 1)) z7.1 z7.2.2.1 z7.2.2.2)) (fun j7 => if (!decide (x2_2.f0 = 11)) then (j7 (fW .i64 (y6_0 + 1), y6_0, y6_2, y6_3)) else (j7 (y6_1, y6_0, y6_2, y6_3)))) else (j8 (y6_1, y6_2, y6_3)))) n
theorem g29_l6_s (k : Nat) (c5 : Int → (List S36) → Option (List S36)) (a0 : (List Nat)) (a1 : (List S46)) (y5_0 : Int) (n : Nat) (y6_0 : Int) (y6_1 : Int) (y6_2 : Int) (y6_3 : (List S36)) : g29_l6 k c5 a0 a1 y5_0 (n + 1) y6_0 y6_1 y6_2 y6_3 = (jn (fun (z8 : Int × Int × (List S36)) => (g29f47_1 k z8.2.1 z8.1 false a0 a1 z8.2.2).bind fun x4_3 => c5 z8.1 x4_3) (fun j8 => if (decide (y6_0 < (a1.length : Int))) then ((nthL a1 y6_0).bind fun x2_2 => jn (fun (z7 : Int × Int × Int × (List S36)) => (nthL a1 z7.2.1).bind fun x3_2 => if (decide (x3_2.f0 = 10)) then (j8 (z7.1, z7.2.2.1, z7.2.2.2)) else ((g29_l6 k c5 a0 a1 y5_0 n) (fW .i64 (z7.2.1 + 1)) z7.1 z7.2.2.1 z7.2.2.2)) (fun j7 => if (!decide (x2_2.f0 = 11)) then (j7 (fW .i64 (y6_0 + 1), y6_0, y6_2, y6_3)) else (j7 (y6_1, y6_0, y6_2, y6_3)))) else (j8 (y6_1, y6_2, y6_3)))) := rfl
theorem g29_l6_ok (k : Nat) (c5 : Int → (List S36) → Option (List S36)) (a0 : (List Nat)) (a1 : (List S46)) (y5_0 : Int) (hc5 : ∀ (y5_0 : Int) (y5_1 : (List S36)), Ok X29 g29p4 [(3, .ptr 1 1 0), (5, .ptr 2 1 0), (6, .func 47 [] [.ptr 2 1 0, .ptr 0 1 0, .ptr 1 1 0]), (7, .int .i64 y5_0)] (mkH [⟨[.str a0], 0, false⟩, ⟨[.vec (a1).length 3 ((a1).flatMap e47)], 0, false⟩, ⟨[.own 3 (y5_1).length 4], 1, false⟩, ⟨(y5_1).flatMap e37, 0, false⟩]) (c5 y5_0 y5_1)) : ∀ (n : Nat) (y6_0 : Int) (y6_1 : Int) (y6_2 : Int) (y6_3 : (List S36)), Ok X29 g29p14 [(3, .ptr 1 1 0), (5, .ptr 2 1 0), (6, .func 47 [] [.ptr 2 1 0, .ptr 0 1 0, .ptr 1 1 0]), (7, .int .i64 y6_2), (8, .int .i64 y6_1), (9, .int .i64 y6_0)] (mkH [⟨[.str a0], 0, false⟩, ⟨[.vec (a1).length 3 ((a1).flatMap e47)], 0, false⟩, ⟨[.own 3 (y6_3).length 4], 1, false⟩, ⟨(y6_3).flatMap e37, 0, false⟩]) (g29_l6 k c5 a0 a1 y5_0 n y6_0 y6_1 y6_2 y6_3)
 | 0, _, _, _, _ => ok_none
 | n + 1, y6_0, y6_1, y6_2, y6_3 => by
  have ih := g29_l6_ok k c5 a0 a1 y5_0 hc5 n
  rw [g29_l6_s]
  refine ok_ent (p' := nav [0] g29p14) (by kernel_rfl) ?_
  let E7 : Env := [(34, .bool (decide (y6_0 < (a1.length : Int)))), (33, .int .i64 (a1.length : Int)), (32, .vec (a1).length 3 ((a1).flatMap e47)), (31, .int .i64 y6_0), (3, .ptr 1 1 0), (5, .ptr 2 1 0), (6, .func 47 [] [.ptr 2 1 0, .ptr 0 1 0, .ptr 1 1 0]), (7, .int .i64 y6_2), (8, .int .i64 y6_1), (9, .int .i64 y6_0)]
  refine oR 8 (p' := g29p16) (eE := E7) (H' := (mkH [⟨[.str a0], 0, false⟩, ⟨[.vec (a1).length 3 ((a1).flatMap e47)], 0, false⟩, ⟨[.own 3 (y6_3).length 4], 1, false⟩, ⟨(y6_3).flatMap e37, 0, false⟩])) (by kernel_rfl) ?_
  refine oJ (f := fun (z8 : Int × Int × (List S36)) => (g29f47_1 k z8.2.1 z8.1 false a0 a1 z8.2.2).bind fun x4_3 => c5 z8.1 x4_3) g29p18 (fun (z8 : Int × Int × (List S36)) => [(3, .ptr 1 1 0), (5, .ptr 2 1 0), (6, .func 47 [] [.ptr 2 1 0, .ptr 0 1 0, .ptr 1 1 0]), (7, .int .i64 z8.2.1), (8, .int .i64 z8.1)]) (fun (z8 : Int × Int × (List S36)) => (mkH [⟨[.str a0], 0, false⟩, ⟨[.vec (a1).length 3 ((a1).flatMap e47)], 0, false⟩, ⟨[.own 3 (z8.2.2).length 4], 1, false⟩, ⟨(z8.2.2).flatMap e37, 0, false⟩])) (fun z8 => ?_) (fun j8 hj8 => ?_)
  ·let E8 : Env := [(53, .int .i64 z8.1), (52, .int .i64 z8.2.1), (51, .func 47 [] [.ptr 2 1 0, .ptr 0 1 0, .ptr 1 1 0]), (3, .ptr 1 1 0), (5, .ptr 2 1 0), (6, .func 47 [] [.ptr 2 1 0, .ptr 0 1 0, .ptr 1 1 0]), (7, .int .i64 z8.2.1), (8, .int .i64 z8.1)]
   refine oR 4 (p' := (atN 3 (ctl1 g29p18))) (eE := E8) (H' := (mkH [⟨[.str a0], 0, false⟩, ⟨[.vec (a1).length 3 ((a1).flatMap e47)], 0, false⟩, ⟨[.own 3 (z8.2.2).length 4], 1, false⟩, ⟨(z8.2.2).flatMap e37, 0, false⟩])) (by kernel_rfl) ?_
   refine ok_callM (fun (x4_3 : (List S36)) => .tuple []) (fun (x4_3 : (List S36)) => (mkH [⟨[.str a0], 0, false⟩, ⟨[.vec (a1).length 3 ((a1).flatMap e47)], 0, false⟩, ⟨[.own 3 (x4_3).length 4], 1, false⟩, ⟨(x4_3).flatMap e37, 0, false⟩])) (atN 4 (ctl1 g29p18)) (fun x4_3 => ((54, .tuple []) :: E8)) (fi := 47) (args := [.int .i64 z8.2.1, .int .i64 z8.1, .bool false, .ptr 2 1 0, .ptr 0 1 0, .ptr 1 1 0]) (by kernel_rfl) (fun r h => g29f47_1_ok k z8.2.1 z8.1 false a0 a1 z8.2.2 r h) (fun _ => by kernel_rfl) (fun x4_3 hx4_3 => ?_)
   refine oR 5 (p' := g29p4) (eE := ((7, .int .i64 z8.1) :: (55, .int .i64 z8.1) :: (54, .tuple []) :: E8)) (H' := (mkH [⟨[.str a0], 0, false⟩, ⟨[.vec (a1).length 3 ((a1).flatMap e47)], 0, false⟩, ⟨[.own 3 (x4_3).length 4], 1, false⟩, ⟨(x4_3).flatMap e37, 0, false⟩])) (by kernel_rfl) ?_
   refine oK [3, 5, 6, 7] (eE := [(3, .ptr 1 1 0), (5, .ptr 2 1 0), (6, .func 47 [] [.ptr 2 1 0, .ptr 0 1 0, .ptr 1 1 0]), (7, .int .i64 z8.1)]) (by kernel_rfl) ?_
   exact hc5 z8.1 x4_3
  ·refine oS 34 (b := decide (y6_0 < (a1.length : Int))) (by kernel_rfl) (fun hb => ?_) (fun hb => ?_)
   ·refine oR 9 (p' := (atN 2 (ctl1 g29p17))) (eE := ((38, .int .i64 y6_0) :: (37, .vec (a1).length 3 ((a1).flatMap e47)) :: (34, .bool true) :: E7)) (H' := (mkH [⟨[.str a0], 0, false⟩, ⟨[.vec (a1).length 3 ((a1).flatMap e47)], 0, false⟩, ⟨[.own 3 (y6_3).length 4], 1, false⟩, ⟨(y6_3).flatMap e37, 0, false⟩])) (by kernel_rfl) ?_
    refine oH (fun (x2_2 : S46) => (.vptr [.int .i64 x2_2.f0, .str x2_2.f1, .int .i64 x2_2.f2], (mkH [⟨[.str a0], 0, false⟩, ⟨[.vec (a1).length 3 ((a1).flatMap e47)], 0, false⟩, ⟨[.own 3 (y6_3).length 4], 1, false⟩, ⟨(y6_3).flatMap e37, 0, false⟩]))) (atN 3 (ctl1 g29p17)) (fun x2_2 => ((39, .vptr [.int .i64 x2_2.f0, .str x2_2.f1, .int .i64 x2_2.f2]) :: (38, .int .i64 y6_0) :: (37, .vec (a1).length 3 ((a1).flatMap e47)) :: (34, .bool true) :: E7)) (vidxH (sz := 3) e47_len (by kernel_rfl)) (fun _ => by kernel_rfl) (fun x2_2 hx2_2 => ?_)
    let E9 : Env := ((42, .bool (!decide (x2_2.f0 = 11))) :: (41, .int .i64 x2_2.f0) :: (40, .vptr [.int .i64 x2_2.f0, .str x2_2.f1, .int .i64 x2_2.f2]) :: (39, .vptr [.int .i64 x2_2.f0, .str x2_2.f1, .int .i64 x2_2.f2]) :: (38, .int .i64 y6_0) :: (37, .vec (a1).length 3 ((a1).flatMap e47)) :: (34, .bool true) :: E7)
    refine oR 4 (p' := g29p19) (eE := E9) (H' := (mkH [⟨[.str a0], 0, false⟩, ⟨[.vec (a1).length 3 ((a1).flatMap e47)], 0, false⟩, ⟨[.own 3 (y6_3).length 4], 1, false⟩, ⟨(y6_3).flatMap e37, 0, false⟩])) (by kernel_rfl) ?_
    refine oK [3, 5, 6, 7, 8, 9, 42] (eE := [(3, .ptr 1 1 0), (5, .ptr 2 1 0), (6, .func 47 [] [.ptr 2 1 0, .ptr 0 1 0, .ptr 1 1 0]), (7, .int .i64 y6_2), (8, .int .i64 y6_1), (9, .int .i64 y6_0), (42, .bool (!decide (x2_2.f0 = 11)))]) (by kernel_rfl) ?_
    refine oJ (f := fun (z7 : Int × Int × Int × (List S36)) => (nthL a1 z7.2.1).bind fun x3_2 => if (decide (x3_2.f0 = 10)) then (j8 (z7.1, z7.2.2.1, z7.2.2.2)) else ((g29_l6 k c5 a0 a1 y5_0 n) (fW .i64 (z7.2.1 + 1)) z7.1 z7.2.2.1 z7.2.2.2)) g29p22 (fun (z7 : Int × Int × Int × (List S36)) => [(3, .ptr 1 1 0), (5, .ptr 2 1 0), (6, .func 47 [] [.ptr 2 1 0, .ptr 0 1 0, .ptr 1 1 0]), (7, .int .i64 z7.2.2.1), (8, .int .i64 z7.1), (9, .int .i64 z7.2.1)]) (fun (z7 : Int × Int × Int × (List S36)) => (mkH [⟨[.str a0], 0, false⟩, ⟨[.vec (a1).length 3 ((a1).flatMap e47)], 0, false⟩, ⟨[.own 3 (z7.2.2.2).length 4], 1, false⟩, ⟨(z7.2.2.2).flatMap e37, 0, false⟩])) (fun z7 => ?_) (fun j7 hj7 => ?_)
    ·let E10 : Env := [(46, .int .i64 z7.2.1), (45, .vec (a1).length 3 ((a1).flatMap e47)), (3, .ptr 1 1 0), (5, .ptr 2 1 0), (6, .func 47 [] [.ptr 2 1 0, .ptr 0 1 0, .ptr 1 1 0]), (7, .int .i64 z7.2.2.1), (8, .int .i64 z7.1), (9, .int .i64 z7.2.1)]
     refine oR 3 (p' := (atN 2 (ctl1 g29p22))) (eE := E10) (H' := (mkH [⟨[.str a0], 0, false⟩, ⟨[.vec (a1).length 3 ((a1).flatMap e47)], 0, false⟩, ⟨[.own 3 (z7.2.2.2).length 4], 1, false⟩, ⟨(z7.2.2.2).flatMap e37, 0, false⟩])) (by kernel_rfl) ?_
     refine oH (fun (x3_2 : S46) => (.vptr [.int .i64 x3_2.f0, .str x3_2.f1, .int .i64 x3_2.f2], (mkH [⟨[.str a0], 0, false⟩, ⟨[.vec (a1).length 3 ((a1).flatMap e47)], 0, false⟩, ⟨[.own 3 (z7.2.2.2).length 4], 1, false⟩, ⟨(z7.2.2.2).flatMap e37, 0, false⟩]))) (atN 3 (ctl1 g29p22)) (fun x3_2 => ((47, .vptr [.int .i64 x3_2.f0, .str x3_2.f1, .int .i64 x3_2.f2]) :: E10)) (vidxH (sz := 3) e47_len (by kernel_rfl)) (fun _ => by kernel_rfl) (fun x3_2 hx3_2 => ?_)
     refine oR 4 (p' := g29p23) (eE := ((50, .bool (decide (x3_2.f0 = 10))) :: (49, .int .i64 x3_2.f0) :: (48, .vptr [.int .i64 x3_2.f0, .str x3_2.f1, .int .i64 x3_2.f2]) :: (47, .vptr [.int .i64 x3_2.f0, .str x3_2.f1, .int .i64 x3_2.f2]) :: E10)) (H' := (mkH [⟨[.str a0], 0, false⟩, ⟨[.vec (a1).length 3 ((a1).flatMap e47)], 0, false⟩, ⟨[.own 3 (z7.2.2.2).length 4], 1, false⟩, ⟨(z7.2.2.2).flatMap e37, 0, false⟩])) (by kernel_rfl) ?_
     refine oS 50 (b := decide (x3_2.f0 = 10)) (by kernel_rfl) (fun hb => ?_) (fun hb => ?_)
     ·let E11 : Env := ((50, .bool true) :: (50, .bool (decide (x3_2.f0 = 10))) :: (49, .int .i64 x3_2.f0) :: (48, .vptr [.int .i64 x3_2.f0, .str x3_2.f1, .int .i64 x3_2.f2]) :: (47, .vptr [.int .i64 x3_2.f0, .str x3_2.f1, .int .i64 x3_2.f2]) :: E10)
      refine oR 3 (p' := g29p18) (eE := E11) (H' := (mkH [⟨[.str a0], 0, false⟩, ⟨[.vec (a1).length 3 ((a1).flatMap e47)], 0, false⟩, ⟨[.own 3 (z7.2.2.2).length 4], 1, false⟩, ⟨(z7.2.2.2).flatMap e37, 0, false⟩])) (by kernel_rfl) ?_
      refine oK [3, 5, 6, 7, 8] (eE := [(3, .ptr 1 1 0), (5, .ptr 2 1 0), (6, .func 47 [] [.ptr 2 1 0, .ptr 0 1 0, .ptr 1 1 0]), (7, .int .i64 z7.2.2.1), (8, .int .i64 z7.1)]) (by kernel_rfl) ?_
      exact hj8 (z7.1, z7.2.2.1, z7.2.2.2)
     ·let E12 : Env := ((9, .int .i64 (fW .i64 (z7.2.1 + 1))) :: (36, .int .i64 (fW .i64 (z7.2.1 + 1))) :: (35, .int .i64 z7.2.1) :: (50, .bool false) :: (50, .bool (decide (x3_2.f0 = 10))) :: (49, .int .i64 x3_2.f0) :: (48, .vptr [.int .i64 x3_2.f0, .str x3_2.f1, .int .i64 x3_2.f2]) :: (47, .vptr [.int .i64 x3_2.f0, .str x3_2.f1, .int .i64 x3_2.f2]) :: E10)
      refine oR 7 (p' := g29p14) (eE := E12) (H' := (mkH [⟨[.str a0], 0, false⟩, ⟨[.vec (a1).length 3 ((a1).flatMap e47)], 0, false⟩, ⟨[.own 3 (z7.2.2.2).length 4], 1, false⟩, ⟨(z7.2.2.2).flatMap e37, 0, false⟩])) (by kernel_rfl) ?_
      refine oK [3, 5, 6, 7, 8, 9] (eE := [(3, .ptr 1 1 0), (5, .ptr 2 1 0), (6, .func 47 [] [.ptr 2 1 0, .ptr 0 1 0, .ptr 1 1 0]), (7, .int .i64 z7.2.2.1), (8, .int .i64 z7.1), (9, .int .i64 (fW .i64 (z7.2.1 + 1)))]) (by kernel_rfl) ?_
      exact ih (fW .i64 (z7.2.1 + 1)) z7.1 z7.2.2.1 z7.2.2.2
    ·refine oS 42 (b := !decide (x2_2.f0 = 11)) (by kernel_rfl) (fun hb => ?_) (fun hb => ?_)
     ·let E13 : Env := [(8, .int .i64 (fW .i64 (y6_0 + 1))), (44, .int .i64 (fW .i64 (y6_0 + 1))), (43, .int .i64 y6_0), (42, .bool true), (3, .ptr 1 1 0), (5, .ptr 2 1 0), (6, .func 47 [] [.ptr 2 1 0, .ptr 0 1 0, .ptr 1 1 0]), (7, .int .i64 y6_2), (8, .int .i64 y6_1), (9, .int .i64 y6_0), (42, .bool (!decide (x2_2.f0 = 11)))]
      refine oR 7 (p' := g29p22) (eE := E13) (H' := (mkH [⟨[.str a0], 0, false⟩, ⟨[.vec (a1).length 3 ((a1).flatMap e47)], 0, false⟩, ⟨[.own 3 (y6_3).length 4], 1, false⟩, ⟨(y6_3).flatMap e37, 0, false⟩])) (by kernel_rfl) ?_
      refine oK [3, 5, 6, 7, 8, 9] (eE := [(3, .ptr 1 1 0), (5, .ptr 2 1 0), (6, .func 47 [] [.ptr 2 1 0, .ptr 0 1 0, .ptr 1 1 0]), (7, .int .i64 y6_2), (8, .int .i64 (fW .i64 (y6_0 + 1))), (9, .int .i64 y6_0)]) (by kernel_rfl) ?_
      exact hj7 (fW .i64 (y6_0 + 1), y6_0, y6_2, y6_3)
     ·let E14 : Env := [(42, .bool false), (3, .ptr 1 1 0), (5, .ptr 2 1 0), (6, .func 47 [] [.ptr 2 1 0, .ptr 0 1 0, .ptr 1 1 0]), (7, .int .i64 y6_2), (8, .int .i64 y6_1), (9, .int .i64 y6_0), (42, .bool (!decide (x2_2.f0 = 11)))]
      refine oR 3 (p' := g29p22) (eE := E14) (H' := (mkH [⟨[.str a0], 0, false⟩, ⟨[.vec (a1).length 3 ((a1).flatMap e47)], 0, false⟩, ⟨[.own 3 (y6_3).length 4], 1, false⟩, ⟨(y6_3).flatMap e37, 0, false⟩])) (by kernel_rfl) ?_
      refine oK [3, 5, 6, 7, 8, 9] (eE := [(3, .ptr 1 1 0), (5, .ptr 2 1 0), (6, .func 47 [] [.ptr 2 1 0, .ptr 0 1 0, .ptr 1 1 0]), (7, .int .i64 y6_2), (8, .int .i64 y6_1), (9, .int .i64 y6_0)]) (by kernel_rfl) ?_
      exact hj7 (y6_1, y6_0, y6_2, y6_3)
   ·refine oR 3 (p' := g29p18) (eE := ((34, .bool false) :: E7)) (H' := (mkH [⟨[.str a0], 0, false⟩, ⟨[.vec (a1).length 3 ((a1).flatMap e47)], 0, false⟩, ⟨[.own 3 (y6_3).length 4], 1, false⟩, ⟨(y6_3).flatMap e37, 0, false⟩])) (by kernel_rfl) ?_
    refine oK [3, 5, 6, 7, 8] (eE := [(3, .ptr 1 1 0), (5, .ptr 2 1 0), (6, .func 47 [] [.ptr 2 1 0, .ptr 0 1 0, .ptr 1 1 0]), (7, .int .i64 y6_2), (8, .int .i64 y6_1)]) (by kernel_rfl) ?_
    exact hj8 (y6_1, y6_2, y6_3)
def g29_l5 (k : Nat)  (a0 : (List Nat)) (a1 : (List S46)) (n : Nat) : Int → (List S36) → Option (List S36) :=
 Nat.rec (motive := fun _ => Int → (List S36) → Option (List S36)) (fun _ _ => none) (fun _ ih => fun (y5_0 : Int) (y5_1 : (List S36)) => if (decide (y5_0 < (a1.length : Int))) then ((nthL a1 y5_0).bind fun x0_2 => if (decide (x0_2.f0 = 11)) then ((g29f47_1 k y5_0 (fW .i64 (y5_0 + 1)) true a0 a1 y5_1).bind fun x1_4 => ih (fW .i64 (y5_0 + 1)) x1_4) else (g29_l6 k ih a0 a1 y5_0 k y5_0 (fW .i64 (y5_0 + 1)) y5_0 y5_1)) else (some y5_1)) n
theorem g29_l5_s (k : Nat)  (a0 : (List Nat)) (a1 : (List S46)) (n : Nat) (y5_0 : Int) (y5_1 : (List S36)) : g29_l5 k a0 a1 (n + 1) y5_0 y5_1 = (if (decide (y5_0 < (a1.length : Int))) then ((nthL a1 y5_0).bind fun x0_2 => if (decide (x0_2.f0 = 11)) then ((g29f47_1 k y5_0 (fW .i64 (y5_0 + 1)) true a0 a1 y5_1).bind fun x1_4 => (g29_l5 k a0 a1 n) (fW .i64 (y5_0 + 1)) x1_4) else (g29_l6 k (g29_l5 k a0 a1 n) a0 a1 y5_0 k y5_0 (fW .i64 (y5_0 + 1)) y5_0 y5_1)) else (some y5_1)) := rfl
theorem g29_l5_ok (k : Nat)  (a0 : (List Nat)) (a1 : (List S46))  : ∀ (n : Nat) (y5_0 : Int) (y5_1 : (List S36)), Ok X29 g29p4 [(3, .ptr 1 1 0), (5, .ptr 2 1 0), (6, .func 47 [] [.ptr 2 1 0, .ptr 0 1 0, .ptr 1 1 0]), (7, .int .i64 y5_0)] (mkH [⟨[.str a0], 0, false⟩, ⟨[.vec (a1).length 3 ((a1).flatMap e47)], 0, false⟩, ⟨[.own 3 (y5_1).length 4], 1, false⟩, ⟨(y5_1).flatMap e37, 0, false⟩]) (g29_l5 k a0 a1 n y5_0 y5_1)
 | 0, _, _ => ok_none
 | n + 1, y5_0, y5_1 => by
  have ih := g29_l5_ok k a0 a1 n
  rw [g29_l5_s]
  refine ok_ent (p' := nav [0] g29p4) (by kernel_rfl) ?_
  let E2 : Env := [(14, .bool (decide (y5_0 < (a1.length : Int)))), (13, .int .i64 (a1.length : Int)), (12, .vec (a1).length 3 ((a1).flatMap e47)), (11, .int .i64 y5_0), (3, .ptr 1 1 0), (5, .ptr 2 1 0), (6, .func 47 [] [.ptr 2 1 0, .ptr 0 1 0, .ptr 1 1 0]), (7, .int .i64 y5_0)]
  refine oR 8 (p' := g29p6) (eE := E2) (H' := (mkH [⟨[.str a0], 0, false⟩, ⟨[.vec (a1).length 3 ((a1).flatMap e47)], 0, false⟩, ⟨[.own 3 (y5_1).length 4], 1, false⟩, ⟨(y5_1).flatMap e37, 0, false⟩])) (by kernel_rfl) ?_
  refine oS 14 (b := decide (y5_0 < (a1.length : Int))) (by kernel_rfl) (fun hb => ?_) (fun hb => ?_)
  ·refine oR 8 (p' := (atN 2 (ctl1 g29p7))) (eE := ((16, .int .i64 y5_0) :: (15, .vec (a1).length 3 ((a1).flatMap e47)) :: (14, .bool true) :: E2)) (H' := (mkH [⟨[.str a0], 0, false⟩, ⟨[.vec (a1).length 3 ((a1).flatMap e47)], 0, false⟩, ⟨[.own 3 (y5_1).length 4], 1, false⟩, ⟨(y5_1).flatMap e37, 0, false⟩])) (by kernel_rfl) ?_
   refine oH (fun (x0_2 : S46) => (.vptr [.int .i64 x0_2.f0, .str x0_2.f1, .int .i64 x0_2.f2], (mkH [⟨[.str a0], 0, false⟩, ⟨[.vec (a1).length 3 ((a1).flatMap e47)], 0, false⟩, ⟨[.own 3 (y5_1).length 4], 1, false⟩, ⟨(y5_1).flatMap e37, 0, false⟩]))) (atN 3 (ctl1 g29p7)) (fun x0_2 => ((17, .vptr [.int .i64 x0_2.f0, .str x0_2.f1, .int .i64 x0_2.f2]) :: (16, .int .i64 y5_0) :: (15, .vec (a1).length 3 ((a1).flatMap e47)) :: (14, .bool true) :: E2)) (vidxH (sz := 3) e47_len (by kernel_rfl)) (fun _ => by kernel_rfl) (fun x0_2 hx0_2 => ?_)
   let E3 : Env := ((20, .bool (decide (x0_2.f0 = 11))) :: (19, .int .i64 x0_2.f0) :: (18, .vptr [.int .i64 x0_2.f0, .str x0_2.f1, .int .i64 x0_2.f2]) :: (17, .vptr [.int .i64 x0_2.f0, .str x0_2.f1, .int .i64 x0_2.f2]) :: (16, .int .i64 y5_0) :: (15, .vec (a1).length 3 ((a1).flatMap e47)) :: (14, .bool true) :: E2)
   refine oR 4 (p' := g29p9) (eE := E3) (H' := (mkH [⟨[.str a0], 0, false⟩, ⟨[.vec (a1).length 3 ((a1).flatMap e47)], 0, false⟩, ⟨[.own 3 (y5_1).length 4], 1, false⟩, ⟨(y5_1).flatMap e37, 0, false⟩])) (by kernel_rfl) ?_
   refine oK [3, 5, 6, 7, 20] (eE := [(3, .ptr 1 1 0), (5, .ptr 2 1 0), (6, .func 47 [] [.ptr 2 1 0, .ptr 0 1 0, .ptr 1 1 0]), (7, .int .i64 y5_0), (20, .bool (decide (x0_2.f0 = 11)))]) (by kernel_rfl) ?_
   refine oS 20 (b := decide (x0_2.f0 = 11)) (by kernel_rfl) (fun hb => ?_) (fun hb => ?_)
   ·let E4 : Env := [(24, .int .i64 (fW .i64 (y5_0 + 1))), (23, .int .i64 y5_0), (22, .int .i64 y5_0), (21, .func 47 [] [.ptr 2 1 0, .ptr 0 1 0, .ptr 1 1 0]), (20, .bool true), (3, .ptr 1 1 0), (5, .ptr 2 1 0), (6, .func 47 [] [.ptr 2 1 0, .ptr 0 1 0, .ptr 1 1 0]), (7, .int .i64 y5_0), (20, .bool (decide (x0_2.f0 = 11)))]
    refine oR 7 (p' := (atN 4 (ctl1 g29p11))) (eE := E4) (H' := (mkH [⟨[.str a0], 0, false⟩, ⟨[.vec (a1).length 3 ((a1).flatMap e47)], 0, false⟩, ⟨[.own 3 (y5_1).length 4], 1, false⟩, ⟨(y5_1).flatMap e37, 0, false⟩])) (by kernel_rfl) ?_
    refine ok_callM (fun (x1_4 : (List S36)) => .tuple []) (fun (x1_4 : (List S36)) => (mkH [⟨[.str a0], 0, false⟩, ⟨[.vec (a1).length 3 ((a1).flatMap e47)], 0, false⟩, ⟨[.own 3 (x1_4).length 4], 1, false⟩, ⟨(x1_4).flatMap e37, 0, false⟩])) (atN 5 (ctl1 g29p11)) (fun x1_4 => ((25, .tuple []) :: E4)) (fi := 47) (args := [.int .i64 y5_0, .int .i64 (fW .i64 (y5_0 + 1)), .bool true, .ptr 2 1 0, .ptr 0 1 0, .ptr 1 1 0]) (by kernel_rfl) (fun r h => g29f47_1_ok k y5_0 (fW .i64 (y5_0 + 1)) true a0 a1 y5_1 r h) (fun _ => by kernel_rfl) (fun x1_4 hx1_4 => ?_)
    refine oR 2 (p' := g29p13) (eE := ((25, .tuple []) :: E4)) (H' := (mkH [⟨[.str a0], 0, false⟩, ⟨[.vec (a1).length 3 ((a1).flatMap e47)], 0, false⟩, ⟨[.own 3 (x1_4).length 4], 1, false⟩, ⟨(x1_4).flatMap e37, 0, false⟩])) (by kernel_rfl) ?_
    refine oK [3, 5, 6, 7] (eE := [(3, .ptr 1 1 0), (5, .ptr 2 1 0), (6, .func 47 [] [.ptr 2 1 0, .ptr 0 1 0, .ptr 1 1 0]), (7, .int .i64 y5_0)]) (by kernel_rfl) ?_
    let E5 : Env := [(7, .int .i64 (fW .i64 (y5_0 + 1))), (27, .int .i64 (fW .i64 (y5_0 + 1))), (26, .int .i64 y5_0), (3, .ptr 1 1 0), (5, .ptr 2 1 0), (6, .func 47 [] [.ptr 2 1 0, .ptr 0 1 0, .ptr 1 1 0]), (7, .int .i64 y5_0)]
    refine oR 6 (p' := g29p4) (eE := E5) (H' := (mkH [⟨[.str a0], 0, false⟩, ⟨[.vec (a1).length 3 ((a1).flatMap e47)], 0, false⟩, ⟨[.own 3 (x1_4).length 4], 1, false⟩, ⟨(x1_4).flatMap e37, 0, false⟩])) (by kernel_rfl) ?_
    refine oK [3, 5, 6, 7] (eE := [(3, .ptr 1 1 0), (5, .ptr 2 1 0), (6, .func 47 [] [.ptr 2 1 0, .ptr 0 1 0, .ptr 1 1 0]), (7, .int .i64 (fW .i64 (y5_0 + 1)))]) (by kernel_rfl) ?_
    exact ih (fW .i64 (y5_0 + 1)) x1_4
   ·let E6 : Env := [(9, .int .i64 y5_0), (8, .int .i64 (fW .i64 (y5_0 + 1))), (30, .int .i64 y5_0), (29, .int .i64 (fW .i64 (y5_0 + 1))), (28, .int .i64 y5_0), (20, .bool false), (3, .ptr 1 1 0), (5, .ptr 2 1 0), (6, .func 47 [] [.ptr 2 1 0, .ptr 0 1 0, .ptr 1 1 0]), (7, .int .i64 y5_0), (20, .bool (decide (x0_2.f0 = 11)))]
    refine oR 13 (p' := g29p14) (eE := E6) (H' := (mkH [⟨[.str a0], 0, false⟩, ⟨[.vec (a1).length 3 ((a1).flatMap e47)], 0, false⟩, ⟨[.own 3 (y5_1).length 4], 1, false⟩, ⟨(y5_1).flatMap e37, 0, false⟩])) (by kernel_rfl) ?_
    refine oK [3, 5, 6, 7, 8, 9] (eE := [(3, .ptr 1 1 0), (5, .ptr 2 1 0), (6, .func 47 [] [.ptr 2 1 0, .ptr 0 1 0, .ptr 1 1 0]), (7, .int .i64 y5_0), (8, .int .i64 (fW .i64 (y5_0 + 1))), (9, .int .i64 y5_0)]) (by kernel_rfl) ?_
    exact (g29_l6_ok k (g29_l5 k a0 a1 n) a0 a1 y5_0 ih k) y5_0 (fW .i64 (y5_0 + 1)) y5_0 y5_1
  ·refine oR 8 (p' := .fin) (eE := ((4, .own 3 (y5_1).length 4) :: (56, .own 3 (y5_1).length 4) :: (14, .bool false) :: E2)) (H' := (mkH [⟨[.str a0], 0, false⟩, ⟨[.vec (a1).length 3 ((a1).flatMap e47)], 0, false⟩, ⟨[.own 3 (y5_1).length 4], 1, false⟩, ⟨(y5_1).flatMap e37, 0, false⟩])) (by kernel_rfl) ?_
   exact oT (r := y5_1) (xs := [.own 3 (y5_1).length 4]) (v := .vec (y5_1).length 4 ((y5_1).flatMap e37)) (by kernel_rfl) (by kernel_rfl) (by kernel_rfl) (fz_own e37_len e37_pur rfl rfl (.pures (by kernel_rfl))) (by kernel_rfl)
def g29 (k : Nat) (a0 : (List Nat)) (a1 : (List S46)) : Option (List S36) :=
 g29_l5 k a0 a1 k 0 ([] : List S36)
theorem g29_ok (k : Nat) (a0 : (List Nat)) (a1 : (List S46)) (r : (List S36)) (h : g29 k a0 a1 = some r) : PureOk Try.prog 29 [.str a0, .vec (a1).length 3 ((a1).flatMap e47)] (.vec (r).length 4 ((r).flatMap e37)) := by
 refine pure_of X29 (fun _ => rfl) Try.func29 (by decide +kernel) (by kernel_rfl) (t := g29 k a0 a1) ?_ h
 unfold g29
 refine oE (eE := [(0, .str a0), (1, .vec (a1).length 3 ((a1).flatMap e47))]) (by kernel_rfl) ?_
 let E1 : Env := [(5, .ptr 2 1 0), (4, .nils), (3, .ptr 1 1 0), (2, .ptr 0 1 0), (0, .str a0), (1, .vec (a1).length 3 ((a1).flatMap e47))]
 refine oR 9 (p' := (atN 1 (ctl1 g29p1))) (eE := E1) (H' := (mkH [⟨[.str a0], 0, false⟩, ⟨[.vec (a1).length 3 ((a1).flatMap e47)], 0, false⟩, ⟨[.nils], 0, false⟩])) (by kernel_rfl) ?_
 refine ok_ownc [⟨[.str a0], 0, false⟩, ⟨[.vec (a1).length 3 ((a1).flatMap e47)], 0, false⟩, ⟨[.nils], 0, false⟩] 2 0 4 0 [.nils] rfl rfl rfl ?_
 refine ok_heap (H' := (mkH [⟨[.str a0], 0, false⟩, ⟨[.vec (a1).length 3 ((a1).flatMap e47)], 0, false⟩, ⟨[.own 3 (([] : List S36)).length 4], 0, false⟩, ⟨(([] : List S36)).flatMap e37, 0, false⟩])) (by kernel_rfl) ?_
 refine oR 13 (p' := g29p4) (eE := ((7, .int .i64 0) :: (6, .func 47 [] [.ptr 2 1 0, .ptr 0 1 0, .ptr 1 1 0]) :: (10, .func 47 [] [.ptr 2 1 0, .ptr 0 1 0, .ptr 1 1 0]) :: E1)) (H' := (mkH [⟨[.str a0], 0, false⟩, ⟨[.vec (a1).length 3 ((a1).flatMap e47)], 0, false⟩, ⟨[.own 3 (([] : List S36)).length 4], 0, false⟩, ⟨(([] : List S36)).flatMap e37, 0, false⟩])) (by kernel_rfl) ?_
 refine oK [3, 5, 6, 7] (eE := [(3, .ptr 1 1 0), (5, .ptr 2 1 0), (6, .func 47 [] [.ptr 2 1 0, .ptr 0 1 0, .ptr 1 1 0]), (7, .int .i64 0)]) (by kernel_rfl) ?_
 refine ok_minv [⟨[.str a0], 0, false⟩, ⟨[.vec (a1).length 3 ((a1).flatMap e47)], 0, false⟩, ⟨[.own 3 (([] : List S36)).length 4], 0, false⟩, ⟨(([] : List S36)).flatMap e37, 0, false⟩] 2 [.own 3 (([] : List S36)).length 4] 0 1 rfl rfl (by decide) ?_
 refine ok_heap (H' := (mkH [⟨[.str a0], 0, false⟩, ⟨[.vec (a1).length 3 ((a1).flatMap e47)], 0, false⟩, ⟨[.own 3 (([] : List S36)).length 4], 1, false⟩, ⟨(([] : List S36)).flatMap e37, 0, false⟩])) (by kernel_rfl) ?_
 exact (g29_l5_ok k a0 a1 k) 0 ([] : List S36)
end
end Go.Proofs.Ytbmijiibfaacmaa.Am
set_option maxRecDepth 100000
set_option linter.unusedVariables false
set_option linter.unusedSimpArgs false
namespace Go.Proofs.Ytbmijiibfaacmaa.Am
open Go
def frmN : List Nat → Nat → Nat → Nat
 | [], _, e => e
 | c :: r, k, e => if c = 10 then (if c = 11 then e else k + 1) else frmN r (k + 1) (if c = 11 then e else k + 1)
def splN (bl : Nat → Bool) : Nat → List Nat → Nat → List (Nat × Nat × Bool × Bool)
 | 0, _, _ => []
 | _ + 1, [], _ => []
 | f + 1, c :: r, i => if c = 11 then (i, i + 1, true, bl i) :: splN bl f r (i + 1) else (i, frmN (c :: r) i (i + 1), false, bl i) :: splN bl f ((c :: r).drop (frmN (c :: r) i (i + 1) - i)) (frmN (c :: r) i (i + 1))
theorem frm_lo : ∀ (r : List Nat) (k e : Nat), e ≤ k → e ≤ frmN r k e ∧ frmN r k e ≤ k + r.length
 | [], k, e, h => by simp only [frmN, List.length_nil]; omega
 | c :: r, k, e, h => by
  simp only [frmN, List.length_cons]
  have h1 := frm_lo r (k + 1) e (by omega)
  have h2 := frm_lo r (k + 1) (k + 1) (Nat.le_refl _)
  split
  ·split <;> omega
  ·split <;> omega
theorem frm_bnd {c : Nat} (r : List Nat) (i : Nat) (h : c ≠ 11) : i + 1 ≤ frmN (c :: r) i (i + 1) ∧ frmN (c :: r) i (i + 1) ≤ i + r.length + 1 := by
 simp only [frmN, if_neg h]
 have h2 := frm_lo r (i + 1) (i + 1) (Nat.le_refl _)
 split <;> omega
def itm (x : Nat × Nat × Bool × Bool) : S36 := ⟨(x.1 : Int), (x.2.1 : Int), x.2.2.1, x.2.2.2⟩
abbrev kindsN (l : List (Nat × Nat × Nat)) : List Nat := l.map (fun x => x.1)
abbrev blkF (s : List Nat) (l : List (Nat × Nat × Nat)) : Nat → Bool := fun i => decide (2 ≤ ((gapI s l (i : Int) : Nat) : Int))
theorem ap24 {acc : List S36} {v : S36} (h : acc.length ≤ 100000) : appS 24 acc [v] = some (acc ++ [v]) := by
 unfold appS; rw [if_pos (by simp only [List.length_cons, List.length_nil]; omega)]
theorem kinds_at {s : List Nat} {l : List (Nat × Nat × Nat)} {i c : Nat} {r : List Nat} (h : (kindsN l).drop i = c :: r) : ∃ x, nthL (l.map (mkTok s)) (i : Int) = some (mkTok s x) ∧ x.1 = c ∧ i < l.length := by
 rcases Nat.lt_or_ge i l.length with hi | hi
 ·obtain ⟨x, r', hx, -, -, -⟩ := dconsL (s := l) (i := i) hi
  refine ⟨x, map_drop' hx, ?_, hi⟩
  rw [kindsN, ← List.map_drop, hx, List.map_cons] at h
  exact (List.cons.inj h).1
 ·rw [kindsN, ← List.map_drop, List.drop_eq_nil_of_le hi] at h; cases h
theorem kinds_end {l : List (Nat × Nat × Nat)} {i : Nat} (h : (kindsN l).drop i = []) : l.length ≤ i := by
 rw [kindsN, ← List.map_drop] at h
 exact List.drop_eq_nil_iff.1 (List.map_eq_nil_iff.1 h)
theorem take_at {k : Nat} {s : List Nat} (hk : s.length + 10 ≤ k) (hl : s.length ≤ 2000) {l : List (Nat × Nat × Nat)} (ht : Toks s 0 l) (a e : Nat) (nt : Bool) {acc : List S36} (ha : acc.length ≤ 100000) :
 g29f47_1 k (a : Int) (e : Int) nt s (l.map (mkTok s)) acc = some (acc ++ [itm (a, e, nt, blkF s l a)]) := by
 unfold g29f47_1
 refine bS (by (try simp (disch := omega) only [fwI]); exact gblank_at hk hl ht (a : Int)) ?_
 refine bS (by (try simp (disch := omega) only [fwI]); exact ap24 ha) ?_
 rfl
theorem split_f {k : Nat} {s : List Nat} (hk : s.length + 10 ≤ k) (hl : s.length ≤ 2000) {l : List (Nat × Nat × Nat)} (ht : Toks s 0 l) (c5 : Int → List S36 → Option (List S36)) (y : Int) {acc : List S36} (ha : acc.length ≤ 100000) (cl : l.length ≤ 2000) (a : Nat) : ∀ (r : List Nat) (f i e : Nat), (kindsN l).drop i = r → r.length < f → e ≤ 3000 →
 g29_l6 k c5 s (l.map (mkTok s)) y f (i : Int) (e : Int) (a : Int) acc = c5 ((frmN r i e : Nat) : Int) (acc ++ [itm (a, frmN r i e, false, blkF s l a)])
 | r, 0, i, e, hr, hf, he => by omega
 | [], f + 1, i, e, hr, hf, he => by
  have := kinds_end hr
  rw [g29_l6_s]
  refine (jS (v := ((e : Int), (a : Int), acc)) (fun j => ?_)).trans ?_
  ·exact iF (dF (by rw [List.length_map]; omega)) rfl
  ·refine bS (by (try simp (disch := omega) only [fwI]); exact take_at hk hl ht a e false ha) ?_
   rfl
 | c :: r, f + 1, i, e, hr, hf, he => by
  obtain ⟨x, hx, hc, hi⟩ := kinds_at (s := s) hr
  have ih := split_f hk hl ht c5 y ha cl a r f (i + 1) (if c = 11 then e else i + 1) (drop_step hr) (by simp only [List.length_cons] at hf; omega) (by split <;> omega)
  rw [g29_l6_s]
  simp only [frmN]
  have fx : (mkTok s x).f0 = (c : Int) := by rw [← hc]; rfl
  by_cases h10 : c = 10
  ·rw [if_pos h10, if_neg (by omega)]
   refine (jS (v := (((i + 1 : Nat) : Int), (a : Int), acc)) (fun j => ?_)).trans ?_
   ·refine iT (dT (by rw [List.length_map]; omega)) ?_
    refine bS (by (try simp (disch := omega) only [fwI]); exact hx) ?_
    refine (jS (v := (((i + 1 : Nat) : Int), (i : Int), (a : Int), acc)) (fun j => ?_)).trans ?_
    ·refine iT (by rw [fx, dF (by omega)]; rfl) ?_
     rw [fw_s (by omega)]
    ·refine bS (by (try simp (disch := omega) only [fwI]); exact hx) ?_
     exact iT (dT (by rw [fx]; omega)) rfl
   ·refine bS (by (try simp (disch := omega) only [fwI]); exact take_at hk hl ht a (i + 1) false ha) ?_
    rfl
  ·rw [if_neg h10]
   refine (jC (r := g29_l6 k c5 s (l.map (mkTok s)) y f ((i + 1 : Nat) : Int) (((if c = 11 then e else i + 1) : Nat) : Int) (a : Int) acc) (fun j => ?_)).trans ih
   refine iT (dT (by rw [List.length_map]; omega)) ?_
   refine bS (by (try simp (disch := omega) only [fwI]); exact hx) ?_
   refine (jS (v := ((((if c = 11 then e else i + 1) : Nat) : Int), (i : Int), (a : Int), acc)) (fun j => ?_)).trans ?_
   ·by_cases h11 : c = 11
    ·refine iF (by rw [fx, dT (by omega)]; rfl) ?_
     rw [if_pos h11]
    ·refine iT (by rw [fx, dF (by omega)]; rfl) ?_
     rw [if_neg h11, fw_s (by omega)]
   ·refine bS (by (try simp (disch := omega) only [fwI]); exact hx) ?_
    refine iF (dF (by rw [fx]; omega)) ?_
    rw [fw_s (by omega)]
theorem split_l {k : Nat} {s : List Nat} (hk : s.length + 10 ≤ k) (hl : s.length ≤ 2000) {l : List (Nat × Nat × Nat)} (ht : Toks s 0 l) (cl : l.length ≤ s.length) : ∀ (f i : Nat) (r : List Nat) (acc : List S36), (kindsN l).drop i = r → r.length < f → i ≤ l.length → acc.length ≤ i →
 g29_l5 k s (l.map (mkTok s)) f (i : Int) acc = some (acc ++ (splN (blkF s l) f r i).map itm)
 | 0, i, r, acc, hr, hf, hi, ha => by omega
 | f + 1, i, [], acc, hr, hf, hi, ha => by
  have := kinds_end hr
  rw [g29_l5_s]
  refine iF (dF (by rw [List.length_map]; omega)) ?_
  simp [splN]
 | f + 1, i, c :: r, acc, hr, hf, hi, ha => by
  obtain ⟨x, hx, hc, hi⟩ := kinds_at (s := s) hr
  have fx : (mkTok s x).f0 = (c : Int) := by rw [← hc]; rfl
  rw [g29_l5_s]
  refine iT (dT (by rw [List.length_map]; omega)) ?_
  refine bS (by (try simp (disch := omega) only [fwI]); exact hx) ?_
  have rl : r.length + i + 1 = l.length := by have := drop_len hr; rw [kindsN, List.length_map] at this; exact this
  simp only [List.length_cons] at hf
  simp only [splN]
  by_cases h11 : c = 11
  ·refine iT (dT (by rw [fx]; omega)) ?_
   rw [fw_s (by omega), if_pos h11]
   refine bS (by (try simp (disch := omega) only [fwI]); exact take_at hk hl ht i (i + 1) true (acc := acc) (by omega)) ?_
   have ih := split_l hk hl ht cl f (i + 1) r (acc ++ [itm (i, i + 1, true, blkF s l i)]) (drop_step hr) (by omega) (by omega) (by simp only [List.length_append, List.length_cons, List.length_nil]; omega)
   refine ih.trans ?_
   simp only [List.append_assoc, List.map_cons, List.singleton_append]
  ·refine iF (dF (by rw [fx]; omega)) ?_
   rw [fw_s (by omega), if_neg h11]
   have b := frm_bnd r i h11
   refine (split_f hk hl ht _ _ (by omega) (by omega) i (c :: r) k i (i + 1) hr (by simp only [List.length_cons]; omega) (by omega)).trans ?_
   have hd : ∀ z, i ≤ z → (kindsN l).drop z = (c :: r).drop (z - i) := fun z hz => by rw [← hr, List.drop_drop]; congr 1; omega
   have ih := split_l hk hl ht cl f (frmN (c :: r) i (i + 1)) ((c :: r).drop (frmN (c :: r) i (i + 1) - i)) (acc ++ [itm (i, frmN (c :: r) i (i + 1), false, blkF s l i)]) (hd _ (by omega)) (by simp only [List.length_drop, List.length_cons]; omega) (by omega) (by simp only [List.length_append, List.length_cons, List.length_nil]; omega)
   refine ih.trans ?_
   simp only [List.append_assoc, List.map_cons, List.singleton_append]
theorem split_at {k : Nat} {s : List Nat} (hk : s.length + 10 ≤ k) (hl : s.length ≤ 2000) {l : List (Nat × Nat × Nat)} (ht : Toks s 0 l) : g29 k s (l.map (mkTok s)) = some ((splN (blkF s l) k (kindsN l) 0).map itm) := by
 have cl : l.length ≤ s.length := toks_len s (s.length + 1) 0 l ((toks_iff s (s.length + 1) 0 l (by omega)).2 ht) (Nat.zero_le _)
 unfold g29
 exact split_l hk hl ht cl k 0 (kindsN l) [] rfl (by rw [kindsN, List.length_map]; omega) (Nat.zero_le _) (Nat.zero_le _)
end Go.Proofs.Ytbmijiibfaacmaa.Am
set_option maxRecDepth 100000
set_option linter.unusedVariables false
set_option linter.unusedSimpArgs false
namespace Go.Proofs.Ytbmijiibfaacmaa.Am
open Go
abbrev T3 := Nat × Nat × Nat
abbrev Pc := Bool × Bool
def nlP (p : Pc) : List Nat := if p.2 then [10, 10] else []
def txP (p : Pc) : List Nat := if p.1 then [37, 32, 99] else [102, 40, 120, 44, 32, 37, 105, 110, 10, 32, 121, 41, 32, 45, 62, 32, 122, 46]
def manT : List Pc → List Nat
 | [] => []
 | p :: r => nlP p ++ (txP p ++ 10 :: manT r)
def tkP (p : Pc) (b : Nat) : List T3 := if p.1 then [(11, b, 3)] else [(1, b, 1), (9, b + 1, 1), (1, b + 2, 1), (9, b + 3, 1), (11, b + 5, 3), (1, b + 10, 1), (9, b + 11, 1), (9, b + 13, 2), (1, b + 16, 1), (10, b + 17, 1)]
def bgP (p : Pc) (a : Nat) : Nat := if p.2 then a + 2 else a
def lnP (p : Pc) : Nat := if p.1 then 3 else 18
def ntP (p : Pc) : Nat := if p.1 then 1 else 10
def tkA : List Pc → Nat → List T3
 | [], _ => []
 | p :: r, a => tkP p (bgP p a) ++ tkA r (bgP p a + lnP p + 1)
def itA (bl : Nat → Bool) : List Pc → Nat → List (Nat × Nat × Bool × Bool)
 | [], _ => []
 | p :: r, i => (i, i + ntP p, p.1, bl i) :: itA bl r (i + ntP p)
theorem txP_len (p : Pc) : (txP p).length = lnP p := by obtain ⟨a, b⟩ := p; cases a <;> rfl
theorem nlP_len (p : Pc) (a : Nat) : a + (nlP p).length = bgP p a := by obtain ⟨x, b⟩ := p; cases b <;> rfl
theorem kinds_man (bl : Nat → Bool) : ∀ (L : List Pc) (a i f : Nat), (kindsN (tkA L a)).length ≤ f → splN bl f (kindsN (tkA L a)) i = itA bl L i
 | [], a, i, f, h => by cases f <;> rfl
 | (true, b) :: r, a, i, 0, h => by simp [tkA, tkP, kindsN] at h
 | (false, b) :: r, a, i, 0, h => by simp [tkA, tkP, kindsN] at h
 | (true, b) :: r, a, i, f + 1, h => by
  have e : kindsN (tkA ((true, b) :: r) a) = 11 :: kindsN (tkA r (bgP (true, b) a + 3 + 1)) := rfl
  rw [e] at h ⊢
  simp only [List.length_cons] at h
  simp only [splN, if_true, itA]
  rw [kinds_man bl r _ (i + 1) f (by omega)]
  rfl
 | (false, b) :: r, a, i, f + 1, h => by
  have e : kindsN (tkA ((false, b) :: r) a) = 1 :: 9 :: 1 :: 9 :: 11 :: 1 :: 9 :: 9 :: 1 :: 10 :: kindsN (tkA r (bgP (false, b) a + 18 + 1)) := rfl
  rw [e] at h ⊢
  generalize hK : kindsN (tkA r (bgP (false, b) a + 18 + 1)) = K at *
  have ef : frmN (1 :: 9 :: 1 :: 9 :: 11 :: 1 :: 9 :: 9 :: 1 :: 10 :: K) i (i + 1) = i + 10 := by simp [frmN]
  simp only [List.length_cons] at h
  simp only [splN, itA]
  rw [if_neg (by decide), ef, show i + 10 - i = 10 by omega]
  rw [show (1 :: 9 :: 1 :: 9 :: 11 :: 1 :: 9 :: 9 :: 1 :: 10 :: K).drop 10 = K from rfl, ← hK, kinds_man bl r _ (i + 10) f (by rw [hK]; omega)]
  rfl
end Go.Proofs.Ytbmijiibfaacmaa.Am
set_option maxRecDepth 100000
set_option linter.unusedVariables false
set_option linter.unusedSimpArgs false
namespace Go.Proofs.Ytbmijiibfaacmaa.Am
open Go
theorem tk_step {s : List Nat} {a b n k : Nat} {u v : List Nat} {l : List T3} (hd : s.drop a = u ++ v) (hb : b = a + u.length) (hu : skipN (u ++ v) = u.length) (hv : v ≠ []) (ho : oneN v = (n, k)) (hn : n ≠ 0) (hl : Toks s (b + n) l) : Toks s a ((k, b, n) :: l) := by
 have hl2 := congrArg List.length hd
 rw [List.length_drop, List.length_append] at hl2
 have := List.length_pos_iff.2 hv
 have e : s.drop b = v := by rw [hb, ← List.drop_drop, hd, List.drop_left]
 have q : b < s.length := by omega
 exact ⟨by rw [hd, hu]; exact hb, q, by rw [e]; exact ho, hn, hl⟩
theorem toks_man : ∀ (L : List Pc) (s : List Nat) (a : Nat), s.drop a = manT L → Toks s a (tkA L a)
 | [], s, a, h => by
  have := List.drop_eq_nil_iff.1 h
  show s.length ≤ a + skipN (s.drop a)
  omega
 | (true, bl) :: r, s, a, h => by
  have hd : ∀ j, s.drop (a + j) = (manT ((true, bl) :: r)).drop j := fun j => by rw [← List.drop_drop, h]
  have hb : s.drop (bgP (true, bl) a) = [37, 32, 99] ++ 10 :: manT r := by
   rw [← nlP_len, hd]; cases bl <;> rfl
  have hq : ∀ j, s.drop (bgP (true, bl) a + j) = ([37, 32, 99] ++ 10 :: manT r).drop j := fun j => by rw [← List.drop_drop, hb]
  have ih := toks_man r s (bgP (true, bl) a + 3 + 1) (by rw [show bgP (true, bl) a + 3 + 1 = bgP (true, bl) a + 4 from rfl, hq]; rfl)
  refine tk_step (u := nlP (true, bl)) (v := [37, 32, 99] ++ 10 :: manT r) h (nlP_len _ _).symm ?_ (by simp) (by kernel_rfl) (by decide) ?_
  ·cases bl <;> kernel_rfl
  ·refine toks_from ih ?_
   rw [hq 3, show bgP (true, bl) a + 3 + 1 = bgP (true, bl) a + 4 from rfl, hq 4]
   show bgP (true, bl) a + 4 + skipN (manT r) = bgP (true, bl) a + 3 + (skipN (manT r) + 1)
   omega
 | (false, bl) :: r, s, a, h => by
  have hd : ∀ j, s.drop (a + j) = (manT ((false, bl) :: r)).drop j := fun j => by rw [← List.drop_drop, h]
  have hb : s.drop (bgP (false, bl) a) = txP (false, bl) ++ 10 :: manT r := by
   rw [← nlP_len, hd]; cases bl <;> rfl
  have hq : ∀ j, s.drop (bgP (false, bl) a + j) = (txP (false, bl) ++ 10 :: manT r).drop j := fun j => by rw [← List.drop_drop, hb]
  have ih := toks_man r s (bgP (false, bl) a + 18 + 1) (by rw [show bgP (false, bl) a + 18 + 1 = bgP (false, bl) a + 19 from rfl, hq]; rfl)
  have h0 : s.drop a = nlP (false, bl) ++ (txP (false, bl) ++ 10 :: manT r) := h
  have hbe := nlP_len (false, bl) a
  show Toks s a (tkP (false, bl) (bgP (false, bl) a) ++ tkA r (bgP (false, bl) a + 18 + 1))
  generalize bgP (false, bl) a = b at *
  show Toks s a ((1, b, 1) :: (9, b + 1, 1) :: (1, b + 2, 1) :: (9, b + 3, 1) :: (11, b + 5, 3) :: (1, b + 10, 1) :: (9, b + 11, 1) :: (9, b + 13, 2) :: (1, b + 16, 1) :: (10, b + 17, 1) :: tkA r (b + 18 + 1))
  have st : ∀ {j b' n k : Nat} {u v : List Nat} {l : List T3}, (txP (false, bl) ++ 10 :: manT r).drop j = u ++ v → b' = b + j + u.length → skipN (u ++ v) = u.length → v ≠ [] → oneN v = (n, k) → n ≠ 0 → Toks s (b' + n) l → Toks s (b + j) ((k, b', n) :: l) := fun h1 h2 h3 h4 h5 h6 h7 => tk_step ((hq _).trans h1) h2 h3 h4 h5 h6 h7
  refine tk_step (u := nlP (false, bl)) (v := txP (false, bl) ++ 10 :: manT r) h0 hbe.symm (by cases bl <;> kernel_rfl) (by simp) (by kernel_rfl) (by decide) ?_
  refine st (j := 1) (u := []) rfl rfl (by kernel_rfl) (by intro h; cases h) (by kernel_rfl) (by decide) ?_
  refine st (j := 2) (u := []) rfl rfl (by kernel_rfl) (by intro h; cases h) (by kernel_rfl) (by decide) ?_
  refine st (j := 3) (u := []) rfl rfl (by kernel_rfl) (by intro h; cases h) (by kernel_rfl) (by decide) ?_
  refine st (j := 4) (u := [32]) rfl rfl (by kernel_rfl) (by intro h; cases h) (by kernel_rfl) (by decide) ?_
  refine st (j := 8) (u := [10, 32]) rfl rfl (by kernel_rfl) (by intro h; cases h) (by kernel_rfl) (by decide) ?_
  refine st (j := 11) (u := []) rfl rfl (by kernel_rfl) (by intro h; cases h) (by kernel_rfl) (by decide) ?_
  refine st (j := 12) (u := [32]) rfl rfl (by kernel_rfl) (by intro h; cases h) (by kernel_rfl) (by decide) ?_
  refine st (j := 15) (u := [32]) rfl rfl (by kernel_rfl) (by intro h; cases h) (by kernel_rfl) (by decide) ?_
  refine st (j := 17) (u := []) rfl rfl (by kernel_rfl) (by intro h; cases h) (by kernel_rfl) (by decide) ?_
  refine toks_from ih ?_
  rw [show b + 18 + 1 = b + 19 from rfl, hq 19, show b + 17 + 1 = b + 18 from rfl, hq 18]
  show b + 19 + skipN (manT r) = b + 18 + (skipN (manT r) + 1)
  omega
end Go.Proofs.Ytbmijiibfaacmaa.Am
set_option maxRecDepth 100000
set_option linter.unusedVariables false
namespace Go.Proofs.Ytbmijiibfaacmaa.Am
noncomputable section
open Go
def X32 : Fx (List Nat) := ⟨Try.prog, cx, Try.f32, fun r => .str r, 0, fun _ => H0, cxTi, cxOrd⟩
def g32p0 : Pt := nav [0] (bodyAt Try.f32)
def g32p1 : Pt := nav [0, 0, 0, 0] g32p0
def g32p2 : Pt := nav [0, 0] g32p1
def g32p4 : Pt := nav [2, 0, 0] g32p2
def g32p6 : Pt := nav [0, 0, 0] g32p4
def g32p7 : Pt := nav [0, 0] g32p6
def g32p9 : Pt := nav [2, 0, 0] g32p7
def g32 (k : Nat) (a0 : (List Nat)) (a1 : (List S46)) (a2 : S36) : Option (List Nat) :=
 jn (fun (z2 : Bool) => if z2 then (some ([] : List Nat)) else ((nthL a1 a2.f0).bind fun x0_3 => (nthL a1 (fW .i64 (a2.f1 - 1))).bind fun x0_10 => (g38 k (⟨x0_10.f0, x0_10.f1, x0_10.f2⟩ : S46)).bind fun x0_12 => jn (fun (z3 : Bool) => if z3 then (some ([] : List Nat)) else ((subL a0 (some x0_3.f2) (some x0_12)).bind fun x1_3 => some x1_3)) (fun j3 => if (decide (x0_3.f2 < 0)) then (j3 true) else (if (decide ((a0.length : Int) < x0_12)) then (j3 true) else (j3 (decide (x0_12 < x0_3.f2))))))) (fun j2 => if (decide (a2.f0 < 0)) then (j2 true) else (if (decide ((a1.length : Int) < a2.f1)) then (j2 true) else (j2 (decide (a2.f1 ≤ a2.f0)))))
theorem g32_ok (k : Nat) (a0 : (List Nat)) (a1 : (List S46)) (a2 : S36) (r : (List Nat)) (h : g32 k a0 a1 a2 = some r) : PureOk Try.prog 32 [.str a0, .vec (a1).length 3 ((a1).flatMap e47), .agg [.int .i64 a2.f0, .int .i64 a2.f1, .bool a2.f2, .bool a2.f3]] (.str r) := by
 refine pure_of X32 (fun _ => rfl) Try.func32 (by decide +kernel) (by kernel_rfl) (t := g32 k a0 a1 a2) ?_ h
 unfold g32
 refine oE (eE := [(0, .str a0), (1, .vec (a1).length 3 ((a1).flatMap e47)), (2, .agg [.int .i64 a2.f0, .int .i64 a2.f1, .bool a2.f2, .bool a2.f3])]) (by kernel_rfl) ?_
 let E1 : Env := [(12, .bool (decide (a2.f0 < 0))), (11, .bool (decide (a2.f0 < 0))), (10, .int .i64 a2.f0), (9, .ptr 0 4 0), (6, .str []), (5, .ptr 0 4 0), (0, .str a0), (1, .vec (a1).length 3 ((a1).flatMap e47)), (2, .agg [.int .i64 a2.f0, .int .i64 a2.f1, .bool a2.f2, .bool a2.f3])]
 refine oR 12 (p' := (atN 4 (ctl1 g32p1))) (eE := E1) (H' := (mkH [⟨[.int .i64 a2.f0, .int .i64 a2.f1, .bool a2.f2, .bool a2.f3], 0, false⟩])) (by kernel_rfl) ?_
 refine oJ (f := fun (z2 : Bool) => if z2 then (some ([] : List Nat)) else ((nthL a1 a2.f0).bind fun x0_3 => (nthL a1 (fW .i64 (a2.f1 - 1))).bind fun x0_10 => (g38 k (⟨x0_10.f0, x0_10.f1, x0_10.f2⟩ : S46)).bind fun x0_12 => jn (fun (z3 : Bool) => if z3 then (some ([] : List Nat)) else ((subL a0 (some x0_3.f2) (some x0_12)).bind fun x1_3 => some x1_3)) (fun j3 => if (decide (x0_3.f2 < 0)) then (j3 true) else (if (decide ((a0.length : Int) < x0_12)) then (j3 true) else (j3 (decide (x0_12 < x0_3.f2))))))) g32p2 (fun (z2 : Bool) => [(0, .str a0), (1, .vec (a1).length 3 ((a1).flatMap e47)), (5, .ptr 0 4 0), (25, .bool z2)]) (fun (z2 : Bool) => (mkH [⟨[.int .i64 a2.f0, .int .i64 a2.f1, .bool a2.f2, .bool a2.f3], 0, false⟩])) (fun z2 => ?_) (fun j2 hj2 => ?_)
 ·refine oS 25 (b := z2) (by kernel_rfl) (fun hb => ?_) (fun hb => ?_)
  ·let E2 : Env := [(6, .str []), (25, .bool true), (0, .str a0), (1, .vec (a1).length 3 ((a1).flatMap e47)), (5, .ptr 0 4 0), (25, .bool z2)]
   refine oR 6 (p' := .fin) (eE := E2) (H' := (mkH [⟨[.int .i64 a2.f0, .int .i64 a2.f1, .bool a2.f2, .bool a2.f3], 0, false⟩])) (by kernel_rfl) ?_
   exact oT (r := ([] : List Nat)) (xs := [.str []]) (v := .str []) (by kernel_rfl) (by kernel_rfl) (by kernel_rfl) (.pures (by kernel_rfl)) (by kernel_rfl)
  ·let E3 : Env := [(25, .bool false), (0, .str a0), (1, .vec (a1).length 3 ((a1).flatMap e47)), (5, .ptr 0 4 0), (25, .bool z2)]
   refine oR 3 (p' := g32p4) (eE := E3) (H' := (mkH [⟨[.int .i64 a2.f0, .int .i64 a2.f1, .bool a2.f2, .bool a2.f3], 0, false⟩])) (by kernel_rfl) ?_
   refine ok_bind (fun x0_3 hx0_3 => ?_)
   refine ok_bind (fun x0_10 hx0_10 => ?_)
   refine ok_bind (fun x0_12 hx0_12 => ?_)
   let E4 : Env := [(28, .int .i64 a2.f0), (27, .ptr 0 4 0), (26, .vec (a1).length 3 ((a1).flatMap e47)), (25, .bool false), (0, .str a0), (1, .vec (a1).length 3 ((a1).flatMap e47)), (5, .ptr 0 4 0), (25, .bool z2)]
   let E5 : Env := ((35, .int .i64 (fW .i64 (a2.f1 - 1))) :: (34, .int .i64 a2.f1) :: (33, .ptr 0 4 1) :: (32, .vec (a1).length 3 ((a1).flatMap e47)) :: (31, .int .i64 x0_3.f2) :: (30, .vptr [.int .i64 x0_3.f2]) :: (29, .vptr [.int .i64 x0_3.f0, .str x0_3.f1, .int .i64 x0_3.f2]) :: E4)
   let E6 : Env := ((8, .int .i64 x0_12) :: (7, .int .i64 x0_3.f2) :: (38, .int .i64 x0_12) :: (37, .agg [.int .i64 x0_10.f0, .str x0_10.f1, .int .i64 x0_10.f2]) :: (36, .vptr [.int .i64 x0_10.f0, .str x0_10.f1, .int .i64 x0_10.f2]) :: E5)
   refine ok_draw (p' := nav [0] g32p4) (eE := E6) (H' := (mkH [⟨[.int .i64 a2.f0, .int .i64 a2.f1, .bool a2.f2, .bool a2.f3], 0, false⟩])) (hs := [(mkH [⟨[.int .i64 a2.f0, .int .i64 a2.f1, .bool a2.f2, .bool a2.f3], 0, false⟩])]) [(0, 0, 0), (0, 0, 0), (2, 0, 1), (7, 0, 0), (15, 0, 0), (31, 0, 1), (0, 0, 0), (0, 0, 0), (128, 0, 0), (384, 0, 0), (960, 0, 0), (1984, 0, 0), (4032, 0, 0), (8191, 0, 0), (16383, 0, 0)] (by kernel_rfl) (by kernel_rfl) (by kernel_rfl) (opsD_run 3 (l' := (opsAt g32p4).toList.drop 3) (eE := E4) (H' := (mkH [⟨[.int .i64 a2.f0, .int .i64 a2.f1, .bool a2.f2, .bool a2.f3], 0, false⟩])) (hs := []) (by kernel_rfl) (opsD_chk (l' := (opsAt g32p4).toList.drop 4) (eE := ((29, .vptr [.int .i64 x0_3.f0, .str x0_3.f1, .int .i64 x0_3.f2]) :: E4)) (hs := []) (x := x0_3) (fun (x0_3 : S46) => (.vptr [.int .i64 x0_3.f0, .str x0_3.f1, .int .i64 x0_3.f2], (mkH [⟨[.int .i64 a2.f0, .int .i64 a2.f1, .bool a2.f2, .bool a2.f3], 0, false⟩]))) (vidxH (sz := 3) e47_len (by kernel_rfl)) hx0_3 (by kernel_rfl) (opsD_run 6 (l' := (opsAt g32p4).toList.drop 10) (eE := E5) (H' := (mkH [⟨[.int .i64 a2.f0, .int .i64 a2.f1, .bool a2.f2, .bool a2.f3], 0, false⟩])) (hs := []) (by kernel_rfl) (opsD_chk (l' := (opsAt g32p4).toList.drop 11) (eE := ((36, .vptr [.int .i64 x0_10.f0, .str x0_10.f1, .int .i64 x0_10.f2]) :: E5)) (hs := []) (x := x0_10) (fun (x0_10 : S46) => (.vptr [.int .i64 x0_10.f0, .str x0_10.f1, .int .i64 x0_10.f2], (mkH [⟨[.int .i64 a2.f0, .int .i64 a2.f1, .bool a2.f2, .bool a2.f3], 0, false⟩]))) (vidxH (sz := 3) e47_len (by kernel_rfl)) hx0_10 (by kernel_rfl) (opsD_run 1 (l' := (opsAt g32p4).toList.drop 12) (eE := ((37, .agg [.int .i64 x0_10.f0, .str x0_10.f1, .int .i64 x0_10.f2]) :: (36, .vptr [.int .i64 x0_10.f0, .str x0_10.f1, .int .i64 x0_10.f2]) :: E5)) (H' := (mkH [⟨[.int .i64 a2.f0, .int .i64 a2.f1, .bool a2.f2, .bool a2.f3], 0, false⟩])) (hs := []) (by kernel_rfl) (opsD_call (l' := (opsAt g32p4).toList.drop 13) (eE := ((38, .int .i64 x0_12) :: (37, .agg [.int .i64 x0_10.f0, .str x0_10.f1, .int .i64 x0_10.f2]) :: (36, .vptr [.int .i64 x0_10.f0, .str x0_10.f1, .int .i64 x0_10.f2]) :: E5)) (hs := [(mkH [⟨[.int .i64 a2.f0, .int .i64 a2.f1, .bool a2.f2, .bool a2.f3], 0, false⟩])]) (fi := 38) (args := [.agg [.int .i64 x0_10.f0, .str x0_10.f1, .int .i64 x0_10.f2]]) (v := .int .i64 x0_12) (by kernel_rfl) (by kernel_rfl) (by kernel_rfl) (g38_ok k (⟨x0_10.f0, x0_10.f1, x0_10.f2⟩ : S46) x0_12 hx0_12) (by kernel_rfl) (opsD_run 2 (l' := (opsAt g32p4).toList.drop 15) (eE := E6) (H' := (mkH [⟨[.int .i64 a2.f0, .int .i64 a2.f1, .bool a2.f2, .bool a2.f3], 0, false⟩])) (hs := []) (by kernel_rfl) (.nil)))))))) (by kernel_rfl) (by kernel_rfl) (by kernel_rfl) ?_
   refine oR 6 (p' := (atN 3 (ctl1 g32p6))) (eE := ((41, .bool (decide (x0_3.f2 < 0))) :: (40, .bool (decide (x0_3.f2 < 0))) :: (39, .int .i64 x0_3.f2) :: E6)) (H' := (mkH [⟨[.int .i64 a2.f0, .int .i64 a2.f1, .bool a2.f2, .bool a2.f3], 0, false⟩])) (by kernel_rfl) ?_
   refine oJ (f := fun (z3 : Bool) => if z3 then (some ([] : List Nat)) else ((subL a0 (some x0_3.f2) (some x0_12)).bind fun x1_3 => some x1_3)) g32p7 (fun (z3 : Bool) => [(0, .str a0), (7, .int .i64 x0_3.f2), (8, .int .i64 x0_12), (51, .bool z3)]) (fun (z3 : Bool) => (mkH [])) (fun z3 => ?_) (fun j3 hj3 => ?_)
   ·refine oS 51 (b := z3) (by kernel_rfl) (fun hb => ?_) (fun hb => ?_)
    ·let E7 : Env := [(6, .str []), (51, .bool true), (0, .str a0), (7, .int .i64 x0_3.f2), (8, .int .i64 x0_12), (51, .bool z3)]
     refine oR 6 (p' := .fin) (eE := E7) (H' := (mkH [])) (by kernel_rfl) ?_
     exact oT (r := ([] : List Nat)) (xs := [.str []]) (v := .str []) (by kernel_rfl) (by kernel_rfl) (by kernel_rfl) (.pures (by kernel_rfl)) (by kernel_rfl)
    ·let E8 : Env := [(54, .int .i64 x0_12), (53, .int .i64 x0_3.f2), (52, .str a0), (51, .bool false), (0, .str a0), (7, .int .i64 x0_3.f2), (8, .int .i64 x0_12), (51, .bool z3)]
     refine oR 7 (p' := (atN 3 (ctl1 g32p9))) (eE := E8) (H' := (mkH [])) (by kernel_rfl) ?_
     refine oH (fun (x1_3 : (List Nat)) => (.str x1_3, (mkH []))) (atN 4 (ctl1 g32p9)) (fun x1_3 => ((55, .str x1_3) :: E8)) (subH (some x0_3.f2) (some x0_12) (by kernel_rfl)) (fun _ => by kernel_rfl) (fun x1_3 hx1_3 => ?_)
     refine oR 3 (p' := .fin) (eE := ((6, .str x1_3) :: (55, .str x1_3) :: E8)) (H' := (mkH [])) (by kernel_rfl) ?_
     exact oT (r := x1_3) (xs := [.str x1_3]) (v := .str x1_3) (by kernel_rfl) (by kernel_rfl) (by kernel_rfl) (.pures (by kernel_rfl)) (by kernel_rfl)
   ·refine oS 41 (b := decide (x0_3.f2 < 0)) (by kernel_rfl) (fun hb => ?_) (fun hb => ?_)
    ·let E9 : Env := ((51, .bool true) :: (50, .tuple []) :: (49, .tuple []) :: (48, .tuple []) :: (47, .bool true) :: (46, .bool true) :: (45, .tuple []) :: (44, .tuple []) :: (43, .tuple []) :: (42, .tuple []) :: (41, .bool true) :: (41, .bool (decide (x0_3.f2 < 0))) :: (40, .bool (decide (x0_3.f2 < 0))) :: (39, .int .i64 x0_3.f2) :: E6)
     refine oR 11 (p' := g32p7) (eE := E9) (H' := (mkH [⟨[.int .i64 a2.f0, .int .i64 a2.f1, .bool a2.f2, .bool a2.f3], 0, false⟩])) (by kernel_rfl) ?_
     refine oK [0, 7, 8, 51] (eE := [(0, .str a0), (7, .int .i64 x0_3.f2), (8, .int .i64 x0_12), (51, .bool true)]) (by kernel_rfl) ?_
     refine ok_cut [] [⟨[.int .i64 a2.f0, .int .i64 a2.f1, .bool a2.f2, .bool a2.f3], 0, false⟩] (by kernel_rfl) rfl (by kernel_rfl) trivial ?_
     exact hj3 true
    ·let E10 : Env := ((47, .bool (decide ((a0.length : Int) < x0_12))) :: (46, .bool (decide ((a0.length : Int) < x0_12))) :: (45, .bool (decide ((a0.length : Int) < x0_12))) :: (44, .int .i64 (a0.length : Int)) :: (43, .str a0) :: (42, .int .i64 x0_12) :: (41, .bool false) :: (41, .bool (decide (x0_3.f2 < 0))) :: (40, .bool (decide (x0_3.f2 < 0))) :: (39, .int .i64 x0_3.f2) :: E6)
     refine oR 6 (p' := (atN 9 (ctl1 g32p6))) (eE := E10) (H' := (mkH [⟨[.int .i64 a2.f0, .int .i64 a2.f1, .bool a2.f2, .bool a2.f3], 0, false⟩])) (by kernel_rfl) ?_
     refine oS 47 (b := decide ((a0.length : Int) < x0_12)) (by kernel_rfl) (fun hb => ?_) (fun hb => ?_)
     ·let E11 : Env := ((51, .bool true) :: (50, .tuple []) :: (49, .tuple []) :: (48, .tuple []) :: (47, .bool true) :: E10)
      refine oR 5 (p' := g32p7) (eE := E11) (H' := (mkH [⟨[.int .i64 a2.f0, .int .i64 a2.f1, .bool a2.f2, .bool a2.f3], 0, false⟩])) (by kernel_rfl) ?_
      refine oK [0, 7, 8, 51] (eE := [(0, .str a0), (7, .int .i64 x0_3.f2), (8, .int .i64 x0_12), (51, .bool true)]) (by kernel_rfl) ?_
      refine ok_cut [] [⟨[.int .i64 a2.f0, .int .i64 a2.f1, .bool a2.f2, .bool a2.f3], 0, false⟩] (by kernel_rfl) rfl (by kernel_rfl) trivial ?_
      exact hj3 true
     ·let E12 : Env := ((51, .bool (decide (x0_12 < x0_3.f2))) :: (50, .bool (decide (x0_12 < x0_3.f2))) :: (49, .int .i64 x0_12) :: (48, .int .i64 x0_3.f2) :: (47, .bool false) :: E10)
      refine oR 5 (p' := g32p7) (eE := E12) (H' := (mkH [⟨[.int .i64 a2.f0, .int .i64 a2.f1, .bool a2.f2, .bool a2.f3], 0, false⟩])) (by kernel_rfl) ?_
      refine oK [0, 7, 8, 51] (eE := [(0, .str a0), (7, .int .i64 x0_3.f2), (8, .int .i64 x0_12), (51, .bool (decide (x0_12 < x0_3.f2)))]) (by kernel_rfl) ?_
      refine ok_cut [] [⟨[.int .i64 a2.f0, .int .i64 a2.f1, .bool a2.f2, .bool a2.f3], 0, false⟩] (by kernel_rfl) rfl (by kernel_rfl) trivial ?_
      exact hj3 (decide (x0_12 < x0_3.f2))
 ·refine oS 12 (b := decide (a2.f0 < 0)) (by kernel_rfl) (fun hb => ?_) (fun hb => ?_)
  ·let E13 : Env := ((25, .bool true) :: (24, .tuple []) :: (23, .tuple []) :: (22, .tuple []) :: (21, .tuple []) :: (20, .tuple []) :: (19, .bool true) :: (18, .bool true) :: (17, .tuple []) :: (16, .tuple []) :: (15, .tuple []) :: (14, .tuple []) :: (13, .tuple []) :: (12, .bool true) :: E1)
   refine oR 14 (p' := g32p2) (eE := E13) (H' := (mkH [⟨[.int .i64 a2.f0, .int .i64 a2.f1, .bool a2.f2, .bool a2.f3], 0, false⟩])) (by kernel_rfl) ?_
   refine oK [0, 1, 5, 25] (eE := [(0, .str a0), (1, .vec (a1).length 3 ((a1).flatMap e47)), (5, .ptr 0 4 0), (25, .bool true)]) (by kernel_rfl) ?_
   exact hj2 true
  ·let E14 : Env := ((19, .bool (decide ((a1.length : Int) < a2.f1))) :: (18, .bool (decide ((a1.length : Int) < a2.f1))) :: (17, .bool (decide ((a1.length : Int) < a2.f1))) :: (16, .int .i64 (a1.length : Int)) :: (15, .vec (a1).length 3 ((a1).flatMap e47)) :: (14, .int .i64 a2.f1) :: (13, .ptr 0 4 1) :: (12, .bool false) :: E1)
   refine oR 7 (p' := (atN 11 (ctl1 g32p1))) (eE := E14) (H' := (mkH [⟨[.int .i64 a2.f0, .int .i64 a2.f1, .bool a2.f2, .bool a2.f3], 0, false⟩])) (by kernel_rfl) ?_
   refine oS 19 (b := decide ((a1.length : Int) < a2.f1)) (by kernel_rfl) (fun hb => ?_) (fun hb => ?_)
   ·let E15 : Env := ((25, .bool true) :: (24, .tuple []) :: (23, .tuple []) :: (22, .tuple []) :: (21, .tuple []) :: (20, .tuple []) :: (19, .bool true) :: E14)
    refine oR 7 (p' := g32p2) (eE := E15) (H' := (mkH [⟨[.int .i64 a2.f0, .int .i64 a2.f1, .bool a2.f2, .bool a2.f3], 0, false⟩])) (by kernel_rfl) ?_
    refine oK [0, 1, 5, 25] (eE := [(0, .str a0), (1, .vec (a1).length 3 ((a1).flatMap e47)), (5, .ptr 0 4 0), (25, .bool true)]) (by kernel_rfl) ?_
    exact hj2 true
   ·let E16 : Env := ((25, .bool (decide (a2.f1 ≤ a2.f0))) :: (24, .bool (decide (a2.f1 ≤ a2.f0))) :: (23, .int .i64 a2.f1) :: (22, .ptr 0 4 1) :: (21, .int .i64 a2.f0) :: (20, .ptr 0 4 0) :: (19, .bool false) :: E14)
    refine oR 7 (p' := g32p2) (eE := E16) (H' := (mkH [⟨[.int .i64 a2.f0, .int .i64 a2.f1, .bool a2.f2, .bool a2.f3], 0, false⟩])) (by kernel_rfl) ?_
    refine oK [0, 1, 5, 25] (eE := [(0, .str a0), (1, .vec (a1).length 3 ((a1).flatMap e47)), (5, .ptr 0 4 0), (25, .bool (decide (a2.f1 ≤ a2.f0)))]) (by kernel_rfl) ?_
    exact hj2 (decide (a2.f1 ≤ a2.f0))
end
end Go.Proofs.Ytbmijiibfaacmaa.Am
set_option maxRecDepth 100000
set_option linter.unusedVariables false
set_option linter.unusedSimpArgs false
namespace Go.Proofs.Ytbmijiibfaacmaa.Am
open Go
structure Iv (s : List Nat) (l : List T3) (L : List Pc) (i a : Nat) : Prop where
 t : s.drop a = manT L
 k : l.drop i = tkA L a
 b : i = 0 ∨ 1 ≤ a ∧ 1 ≤ i ∧ s.drop (a - 1) = 10 :: manT L ∧ ∃ x : T3, x.2.1 + x.2.2 = a - 1 ∧ l.drop (i - 1) = x :: tkA L a
theorem tkP_last (p : Pc) (b : Nat) : ∃ x : T3, (tkP p b).drop (ntP p - 1) = [x] ∧ x.2.1 + x.2.2 = b + lnP p := by
 obtain ⟨n, q⟩ := p
 cases n
 ·exact ⟨(10, b + 17, 1), rfl, rfl⟩
 ·exact ⟨(11, b, 3), rfl, rfl⟩
theorem tkP_first (p : Pc) (b : Nat) : ∃ (x : T3) (q : List T3), tkP p b = x :: q ∧ x.2.1 = b := by
 obtain ⟨n, q⟩ := p
 cases n
 ·exact ⟨_, _, rfl, rfl⟩
 ·exact ⟨_, _, rfl, rfl⟩
theorem tkP_len (p : Pc) (b : Nat) : (tkP p b).length = ntP p := by
 obtain ⟨n, q⟩ := p
 cases n <;> rfl
theorem ntP_pos (p : Pc) : 1 ≤ ntP p := by
 obtain ⟨n, q⟩ := p
 cases n
 ·exact (by decide : 1 ≤ 10)
 ·exact (by decide : 1 ≤ 1)
theorem Iv.s {s : List Nat} {l : List T3} {p : Pc} {r : List Pc} {i a : Nat} (h : Iv s l (p :: r) i a) : Iv s l r (i + ntP p) (bgP p a + lnP p + 1) := by
 have hb : s.drop (bgP p a) = txP p ++ 10 :: manT r := by
  rw [← nlP_len, ← List.drop_drop, h.t]
  show (nlP p ++ (txP p ++ 10 :: manT r)).drop (nlP p).length = _
  rw [List.drop_left]
 have he : s.drop (bgP p a + lnP p) = 10 :: manT r := by rw [← List.drop_drop, hb, ← txP_len, List.drop_left]
 have hk : l.drop i = tkP p (bgP p a) ++ tkA r (bgP p a + lnP p + 1) := h.k
 obtain ⟨x, hx, hx2⟩ := tkP_last p (bgP p a)
 have hn := ntP_pos p
 refine ⟨by rw [← List.drop_drop, he]; rfl, by rw [← List.drop_drop, hk, ← tkP_len p (bgP p a), List.drop_left], .inr ⟨by omega, by omega, he, x, hx2, ?_⟩⟩
 rw [show i + ntP p - 1 = i + (ntP p - 1) by omega, ← List.drop_drop, hk, List.drop_append_of_le_length (by rw [tkP_len]; omega), hx]
 rfl
theorem Iv.bl {s : List Nat} {l : List T3} {p : Pc} {r : List Pc} {i a : Nat} (h : Iv s l (p :: r) i a) : blkF s l i = (p.2 && decide (0 < i)) := by
 show decide (2 ≤ ((gapI s l (i : Int) : Nat) : Int)) = _
 rcases h.b with h0 | ⟨h1, h2, h3, x, h4, h5⟩
 ·subst h0
  unfold gapI
  rw [if_neg (by omega), decide_eq_false (by omega)]
  simp
 ·obtain ⟨y, q, hy, hyb⟩ := tkP_first p (bgP p a)
  have hk : tkA (p :: r) a = y :: (q ++ tkA r (bgP p a + lnP p + 1)) := by
   show tkP p (bgP p a) ++ _ = _
   rw [hy]; rfl
  have hil : i < l.length := by
   have := h.k
   rw [hk] at this
   have := congrArg List.length this
   rw [List.length_drop, List.length_cons] at this
   omega
  have hg : gapI s l (i : Int) = nlF s (bgP p a) (bgP p a - (a - 1)) (a - 1) := by
   unfold gapI
   rw [if_pos ⟨by omega, by omega⟩, Int.toNat_natCast]
   unfold gapN
   rw [h5, hk]
   show nlF s y.2.1 (y.2.1 - (x.2.1 + x.2.2)) (x.2.1 + x.2.2) = _
   rw [hyb, h4]
  rw [hg]
  have hd : ∀ j, s.drop (a - 1 + j) = (10 :: manT (p :: r)).drop j := fun j => by rw [← List.drop_drop, h3]
  have d0 := hd 0
  have d1 := hd 1
  have d2 := hd 2
  obtain ⟨n, bl⟩ := p
  cases bl
  ·have e : nlF s a 1 (a - 1) = 1 := by
    simp only [nlF]
    rw [if_neg (by omega), h3]; rfl
   show decide (2 ≤ ((nlF s a (a - (a - 1)) (a - 1) : Nat) : Int)) = _
   rw [show a - (a - 1) = 1 by omega, e]; rfl
  ·have e : nlF s (a + 2) 3 (a - 1) = 3 := by
    simp only [nlF]
    rw [if_neg (by omega), if_neg (by omega), if_neg (by omega), h3, d1, show a - 1 + 1 + 1 = a - 1 + 2 from rfl, d2]; rfl
   show decide (2 ≤ ((nlF s (a + 2) (a + 2 - (a - 1)) (a - 1) : Nat) : Int)) = _
   rw [show a + 2 - (a - 1) = 3 by omega, e, decide_eq_true (by decide), decide_eq_true (by omega)]; rfl
end Go.Proofs.Ytbmijiibfaacmaa.Am
set_option maxRecDepth 100000
set_option linter.unusedVariables false
namespace Go.Proofs.Ytbmijiibfaacmaa.Am
noncomputable section
open Go
def X27 : Fx Bool := ⟨Try.prog, cx, Try.f27, fun r => .bool r, 0, fun _ => H0, cxTi, cxOrd⟩
def g27c0 : List Nat := [37, 97, 10, 102, 40, 41, 32, 45, 62, 32, 111, 107, 46, 32, 37, 98]
def g27c1 : List Nat := [102, 40, 41, 32, 45, 62, 32, 111, 107, 46]
def g27p0 : Pt := nav [0] (bodyAt Try.f27)
def g27p1 : Pt := nav [0, 0, 0] g27p0
def g27p2 : Pt := nav [0, 0, 0] g27p1
def g27p3 : Pt := nav [0, 0, 0] g27p2
def g27p4 : Pt := nav [0, 0, 0] g27p3
def g27 (k : Nat)  : Option Bool :=
 (g28 k g27c0).bind fun x0_1 => (g29 k g27c0 x0_1.1).bind fun x1_2 => if (decide (x0_1.2 = 0)) then (if (decide ((x1_2.length : Int) = 3)) then ((nthL x1_2 0).bind fun x2_9 => if x2_9.f2 then ((nthL x1_2 1).bind fun x2_15 => if (!x2_15.f2) then ((nthL x1_2 2).bind fun x2_22 => if x2_22.f2 then ((nthL x1_2 1).bind fun x2_30 => (g32 k g27c0 x0_1.1 (⟨x2_30.f0, x2_30.f1, x2_30.f2, x2_30.f3⟩ : S36)).bind fun x2_32 => if (eqL x2_32 g27c1) then ((g32 k g27c0 x0_1.1 (⟨(0 : Int), (0 : Int), false, false⟩ : S36)).bind fun x2_39 => some (eqL x2_39 [])) else (some false)) else (some false)) else (some false)) else (some false)) else (some false)) else (some false)
theorem g27_ok (k : Nat)  (r : Bool) (h : g27 k  = some r) : PureOk Try.prog 27 [] (.bool r) := by
 refine pure_of X27 (fun _ => rfl) Try.func27 (by decide +kernel) (by kernel_rfl) (t := g27 k ) ?_ h
 unfold g27
 refine oE (eE := []) (by kernel_rfl) ?_
 refine oR 11 (p' := (atN 1 (ctl1 g27p2))) (eE := [(6, .str g27c0), (1, .str g27c0), (0, .bool false)]) (H' := (mkH [])) (by kernel_rfl) ?_
 refine oC (fun (x0_1 : ((List S46) × Int)) => .tuple [.vec (x0_1.1).length 3 ((x0_1.1).flatMap e47), .int .i64 x0_1.2]) (atN 2 (ctl1 g27p2)) (fun x0_1 => [(7, .tuple [.vec (x0_1.1).length 3 ((x0_1.1).flatMap e47), .int .i64 x0_1.2]), (6, .str g27c0), (1, .str g27c0), (0, .bool false)]) (fi := 28) (args := [.str g27c0]) (by kernel_rfl) (by kernel_rfl) (fun _ => by kernel_rfl) (fun r h => g28_ok k g27c0 r h) (fun _ => by kernel_rfl) (fun x0_1 hx0_1 => ?_)
 let E1 : Env := [(11, .vec (x0_1.1).length 3 ((x0_1.1).flatMap e47)), (10, .str g27c0), (3, .int .i64 x0_1.2), (2, .vec (x0_1.1).length 3 ((x0_1.1).flatMap e47)), (9, .int .i64 x0_1.2), (8, .vec (x0_1.1).length 3 ((x0_1.1).flatMap e47)), (5, .tuple [.vec (x0_1.1).length 3 ((x0_1.1).flatMap e47), .int .i64 x0_1.2]), (7, .tuple [.vec (x0_1.1).length 3 ((x0_1.1).flatMap e47), .int .i64 x0_1.2]), (6, .str g27c0), (1, .str g27c0), (0, .bool false)]
 refine oR 10 (p' := (atN 2 (ctl1 g27p3))) (eE := E1) (H' := (mkH [])) (by kernel_rfl) ?_
 refine oC (fun (x1_2 : (List S36)) => .vec (x1_2).length 4 ((x1_2).flatMap e37)) (atN 3 (ctl1 g27p3)) (fun x1_2 => ((12, .vec (x1_2).length 4 ((x1_2).flatMap e37)) :: E1)) (fi := 29) (args := [.str g27c0, .vec (x0_1.1).length 3 ((x0_1.1).flatMap e47)]) (by kernel_rfl) (by kernel_rfl) (fun _ => by kernel_rfl) (fun r h => g29_ok k g27c0 x0_1.1 r h) (fun _ => by kernel_rfl) (fun x1_2 hx1_2 => ?_)
 refine oR 3 (p' := g27p4) (eE := ((4, .vec (x1_2).length 4 ((x1_2).flatMap e37)) :: (12, .vec (x1_2).length 4 ((x1_2).flatMap e37)) :: E1)) (H' := (mkH [])) (by kernel_rfl) ?_
 refine oK [1, 2, 3, 4] (eE := [(1, .str g27c0), (2, .vec (x0_1.1).length 3 ((x0_1.1).flatMap e47)), (3, .int .i64 x0_1.2), (4, .vec (x1_2).length 4 ((x1_2).flatMap e37))]) (by kernel_rfl) ?_
 let E2 : Env := [(15, .bool (decide (x0_1.2 = 0))), (14, .bool (decide (x0_1.2 = 0))), (13, .int .i64 x0_1.2), (1, .str g27c0), (2, .vec (x0_1.1).length 3 ((x0_1.1).flatMap e47)), (3, .int .i64 x0_1.2), (4, .vec (x1_2).length 4 ((x1_2).flatMap e37))]
 refine oR 4 (p' := (atN 3 (ctl1 g27p4))) (eE := E2) (H' := (mkH [])) (by kernel_rfl) ?_
 refine oS 15 (b := decide (x0_1.2 = 0)) (by kernel_rfl) (fun hb => ?_) (fun hb => ?_)
 ·let E3 : Env := ((20, .bool (decide ((x1_2.length : Int) = 3))) :: (19, .bool (decide ((x1_2.length : Int) = 3))) :: (18, .bool (decide ((x1_2.length : Int) = 3))) :: (17, .int .i64 (x1_2.length : Int)) :: (16, .vec (x1_2).length 4 ((x1_2).flatMap e37)) :: (15, .bool true) :: E2)
  refine oR 5 (p' := (atN 8 (ctl1 g27p4))) (eE := E3) (H' := (mkH [])) (by kernel_rfl) ?_
  refine oS 20 (b := decide ((x1_2.length : Int) = 3)) (by kernel_rfl) (fun hb => ?_) (fun hb => ?_)
  ·refine oR 1 (p' := (atN 9 (ctl1 g27p4))) (eE := ((21, .vec (x1_2).length 4 ((x1_2).flatMap e37)) :: (20, .bool true) :: E3)) (H' := (mkH [])) (by kernel_rfl) ?_
   refine oH (fun (x2_9 : S36) => (.vptr [.int .i64 x2_9.f0, .int .i64 x2_9.f1, .bool x2_9.f2, .bool x2_9.f3], (mkH []))) (atN 10 (ctl1 g27p4)) (fun x2_9 => ((22, .vptr [.int .i64 x2_9.f0, .int .i64 x2_9.f1, .bool x2_9.f2, .bool x2_9.f3]) :: (21, .vec (x1_2).length 4 ((x1_2).flatMap e37)) :: (20, .bool true) :: E3)) (vidxH (sz := 4) e37_len (by kernel_rfl)) (fun _ => by kernel_rfl) (fun x2_9 hx2_9 => ?_)
   let E4 : Env := ((26, .bool x2_9.f2) :: (25, .bool x2_9.f2) :: (24, .bool x2_9.f2) :: (23, .vptr [.bool x2_9.f2, .bool x2_9.f3]) :: (22, .vptr [.int .i64 x2_9.f0, .int .i64 x2_9.f1, .bool x2_9.f2, .bool x2_9.f3]) :: (21, .vec (x1_2).length 4 ((x1_2).flatMap e37)) :: (20, .bool true) :: E3)
   refine oR 4 (p' := (atN 14 (ctl1 g27p4))) (eE := E4) (H' := (mkH [])) (by kernel_rfl) ?_
   refine oS 26 (b := x2_9.f2) (by kernel_rfl) (fun hb => ?_) (fun hb => ?_)
   ·refine oR 1 (p' := (atN 15 (ctl1 g27p4))) (eE := ((27, .vec (x1_2).length 4 ((x1_2).flatMap e37)) :: (26, .bool true) :: E4)) (H' := (mkH [])) (by kernel_rfl) ?_
    refine oH (fun (x2_15 : S36) => (.vptr [.int .i64 x2_15.f0, .int .i64 x2_15.f1, .bool x2_15.f2, .bool x2_15.f3], (mkH []))) (atN 16 (ctl1 g27p4)) (fun x2_15 => ((28, .vptr [.int .i64 x2_15.f0, .int .i64 x2_15.f1, .bool x2_15.f2, .bool x2_15.f3]) :: (27, .vec (x1_2).length 4 ((x1_2).flatMap e37)) :: (26, .bool true) :: E4)) (vidxH (sz := 4) e37_len (by kernel_rfl)) (fun _ => by kernel_rfl) (fun x2_15 hx2_15 => ?_)
    let E5 : Env := ((33, .bool (!x2_15.f2)) :: (32, .bool (!x2_15.f2)) :: (31, .bool (!x2_15.f2)) :: (30, .bool x2_15.f2) :: (29, .vptr [.bool x2_15.f2, .bool x2_15.f3]) :: (28, .vptr [.int .i64 x2_15.f0, .int .i64 x2_15.f1, .bool x2_15.f2, .bool x2_15.f3]) :: (27, .vec (x1_2).length 4 ((x1_2).flatMap e37)) :: (26, .bool true) :: E4)
    refine oR 5 (p' := (atN 21 (ctl1 g27p4))) (eE := E5) (H' := (mkH [])) (by kernel_rfl) ?_
    refine oS 33 (b := !x2_15.f2) (by kernel_rfl) (fun hb => ?_) (fun hb => ?_)
    ·refine oR 1 (p' := (atN 22 (ctl1 g27p4))) (eE := ((34, .vec (x1_2).length 4 ((x1_2).flatMap e37)) :: (33, .bool true) :: E5)) (H' := (mkH [])) (by kernel_rfl) ?_
     refine oH (fun (x2_22 : S36) => (.vptr [.int .i64 x2_22.f0, .int .i64 x2_22.f1, .bool x2_22.f2, .bool x2_22.f3], (mkH []))) (atN 23 (ctl1 g27p4)) (fun x2_22 => ((35, .vptr [.int .i64 x2_22.f0, .int .i64 x2_22.f1, .bool x2_22.f2, .bool x2_22.f3]) :: (34, .vec (x1_2).length 4 ((x1_2).flatMap e37)) :: (33, .bool true) :: E5)) (vidxH (sz := 4) e37_len (by kernel_rfl)) (fun _ => by kernel_rfl) (fun x2_22 hx2_22 => ?_)
     let E6 : Env := ((39, .bool x2_22.f2) :: (38, .bool x2_22.f2) :: (37, .bool x2_22.f2) :: (36, .vptr [.bool x2_22.f2, .bool x2_22.f3]) :: (35, .vptr [.int .i64 x2_22.f0, .int .i64 x2_22.f1, .bool x2_22.f2, .bool x2_22.f3]) :: (34, .vec (x1_2).length 4 ((x1_2).flatMap e37)) :: (33, .bool true) :: E5)
     refine oR 4 (p' := (atN 27 (ctl1 g27p4))) (eE := E6) (H' := (mkH [])) (by kernel_rfl) ?_
     refine oS 39 (b := x2_22.f2) (by kernel_rfl) (fun hb => ?_) (fun hb => ?_)
     ·refine oR 3 (p' := (atN 30 (ctl1 g27p4))) (eE := ((42, .vec (x1_2).length 4 ((x1_2).flatMap e37)) :: (41, .vec (x0_1.1).length 3 ((x0_1.1).flatMap e47)) :: (40, .str g27c0) :: (39, .bool true) :: E6)) (H' := (mkH [])) (by kernel_rfl) ?_
      refine oH (fun (x2_30 : S36) => (.vptr [.int .i64 x2_30.f0, .int .i64 x2_30.f1, .bool x2_30.f2, .bool x2_30.f3], (mkH []))) (atN 31 (ctl1 g27p4)) (fun x2_30 => ((43, .vptr [.int .i64 x2_30.f0, .int .i64 x2_30.f1, .bool x2_30.f2, .bool x2_30.f3]) :: (42, .vec (x1_2).length 4 ((x1_2).flatMap e37)) :: (41, .vec (x0_1.1).length 3 ((x0_1.1).flatMap e47)) :: (40, .str g27c0) :: (39, .bool true) :: E6)) (vidxH (sz := 4) e37_len (by kernel_rfl)) (fun _ => by kernel_rfl) (fun x2_30 hx2_30 => ?_)
      let E7 : Env := ((44, .agg [.int .i64 x2_30.f0, .int .i64 x2_30.f1, .bool x2_30.f2, .bool x2_30.f3]) :: (43, .vptr [.int .i64 x2_30.f0, .int .i64 x2_30.f1, .bool x2_30.f2, .bool x2_30.f3]) :: (42, .vec (x1_2).length 4 ((x1_2).flatMap e37)) :: (41, .vec (x0_1.1).length 3 ((x0_1.1).flatMap e47)) :: (40, .str g27c0) :: (39, .bool true) :: E6)
      refine oR 1 (p' := (atN 32 (ctl1 g27p4))) (eE := E7) (H' := (mkH [])) (by kernel_rfl) ?_
      refine oC (fun (x2_32 : (List Nat)) => .str x2_32) (atN 33 (ctl1 g27p4)) (fun x2_32 => ((45, .str x2_32) :: E7)) (fi := 32) (args := [.str g27c0, .vec (x0_1.1).length 3 ((x0_1.1).flatMap e47), .agg [.int .i64 x2_30.f0, .int .i64 x2_30.f1, .bool x2_30.f2, .bool x2_30.f3]]) (by kernel_rfl) (by kernel_rfl) (fun _ => by kernel_rfl) (fun r h => g32_ok k g27c0 x0_1.1 (⟨x2_30.f0, x2_30.f1, x2_30.f2, x2_30.f3⟩ : S36) r h) (fun _ => by kernel_rfl) (fun x2_32 hx2_32 => ?_)
      refine oR 3 (p' := (atN 36 (ctl1 g27p4))) (eE := ((48, .bool (eqL x2_32 g27c1)) :: (47, .bool (eqL x2_32 g27c1)) :: (46, .bool (eqL x2_32 g27c1)) :: (45, .str x2_32) :: E7)) (H' := (mkH [])) (by kernel_rfl) ?_
      refine oS 48 (b := eqL x2_32 g27c1) (by kernel_rfl) (fun hb => ?_) (fun hb => ?_)
      ·let E8 : Env := ((51, .agg [.int .i64 0, .int .i64 0, .bool false, .bool false]) :: (50, .vec (x0_1.1).length 3 ((x0_1.1).flatMap e47)) :: (49, .str g27c0) :: (48, .bool true) :: (48, .bool (eqL x2_32 g27c1)) :: (47, .bool (eqL x2_32 g27c1)) :: (46, .bool (eqL x2_32 g27c1)) :: (45, .str x2_32) :: E7)
       refine oR 3 (p' := (atN 39 (ctl1 g27p4))) (eE := E8) (H' := (mkH [])) (by kernel_rfl) ?_
       refine oC (fun (x2_39 : (List Nat)) => .str x2_39) (atN 40 (ctl1 g27p4)) (fun x2_39 => ((52, .str x2_39) :: E8)) (fi := 32) (args := [.str g27c0, .vec (x0_1.1).length 3 ((x0_1.1).flatMap e47), .agg [.int .i64 0, .int .i64 0, .bool false, .bool false]]) (by kernel_rfl) (by kernel_rfl) (fun _ => by kernel_rfl) (fun r h => g32_ok k g27c0 x0_1.1 (⟨(0 : Int), (0 : Int), false, false⟩ : S36) r h) (fun _ => by kernel_rfl) (fun x2_39 hx2_39 => ?_)
       refine oR 5 (p' := .fin) (eE := ((0, .bool (eqL x2_39 [])) :: (54, .bool (eqL x2_39 [])) :: (53, .bool (eqL x2_39 [])) :: (52, .str x2_39) :: E8)) (H' := (mkH [])) (by kernel_rfl) ?_
       exact oT (r := (eqL x2_39 [])) (xs := [.bool (eqL x2_39 [])]) (v := .bool (eqL x2_39 [])) (by kernel_rfl) (by kernel_rfl) (by kernel_rfl) (.pures (by kernel_rfl)) (by kernel_rfl)
      ·let E9 : Env := ((0, .bool false) :: (54, .bool false) :: (53, .tuple []) :: (52, .tuple []) :: (51, .tuple []) :: (50, .tuple []) :: (49, .tuple []) :: (48, .bool false) :: (48, .bool (eqL x2_32 g27c1)) :: (47, .bool (eqL x2_32 g27c1)) :: (46, .bool (eqL x2_32 g27c1)) :: (45, .str x2_32) :: E7)
       refine oR 9 (p' := .fin) (eE := E9) (H' := (mkH [])) (by kernel_rfl) ?_
       exact oT (r := false) (xs := [.bool false]) (v := .bool false) (by kernel_rfl) (by kernel_rfl) (by kernel_rfl) (.pures (by kernel_rfl)) (by kernel_rfl)
     ·let E10 : Env := ((0, .bool false) :: (54, .bool false) :: (53, .tuple []) :: (52, .tuple []) :: (51, .tuple []) :: (50, .tuple []) :: (49, .tuple []) :: (48, .bool false) :: (47, .bool false) :: (46, .tuple []) :: (45, .tuple []) :: (44, .tuple []) :: (43, .tuple []) :: (42, .tuple []) :: (41, .tuple []) :: (40, .tuple []) :: (39, .bool false) :: E6)
      refine oR 18 (p' := .fin) (eE := E10) (H' := (mkH [])) (by kernel_rfl) ?_
      exact oT (r := false) (xs := [.bool false]) (v := .bool false) (by kernel_rfl) (by kernel_rfl) (by kernel_rfl) (.pures (by kernel_rfl)) (by kernel_rfl)
    ·let E11 : Env := ((0, .bool false) :: (54, .bool false) :: (53, .tuple []) :: (52, .tuple []) :: (51, .tuple []) :: (50, .tuple []) :: (49, .tuple []) :: (48, .bool false) :: (47, .bool false) :: (46, .tuple []) :: (45, .tuple []) :: (44, .tuple []) :: (43, .tuple []) :: (42, .tuple []) :: (41, .tuple []) :: (40, .tuple []) :: (39, .bool false) :: (38, .bool false) :: (37, .tuple []) :: (36, .tuple []) :: (35, .tuple []) :: (34, .tuple []) :: (33, .bool false) :: E5)
     refine oR 24 (p' := .fin) (eE := E11) (H' := (mkH [])) (by kernel_rfl) ?_
     exact oT (r := false) (xs := [.bool false]) (v := .bool false) (by kernel_rfl) (by kernel_rfl) (by kernel_rfl) (.pures (by kernel_rfl)) (by kernel_rfl)
   ·let E12 : Env := ((0, .bool false) :: (54, .bool false) :: (53, .tuple []) :: (52, .tuple []) :: (51, .tuple []) :: (50, .tuple []) :: (49, .tuple []) :: (48, .bool false) :: (47, .bool false) :: (46, .tuple []) :: (45, .tuple []) :: (44, .tuple []) :: (43, .tuple []) :: (42, .tuple []) :: (41, .tuple []) :: (40, .tuple []) :: (39, .bool false) :: (38, .bool false) :: (37, .tuple []) :: (36, .tuple []) :: (35, .tuple []) :: (34, .tuple []) :: (33, .bool false) :: (32, .bool false) :: (31, .tuple []) :: (30, .tuple []) :: (29, .tuple []) :: (28, .tuple []) :: (27, .tuple []) :: (26, .bool false) :: E4)
    refine oR 31 (p' := .fin) (eE := E12) (H' := (mkH [])) (by kernel_rfl) ?_
    exact oT (r := false) (xs := [.bool false]) (v := .bool false) (by kernel_rfl) (by kernel_rfl) (by kernel_rfl) (.pures (by kernel_rfl)) (by kernel_rfl)
  ·let E13 : Env := ((0, .bool false) :: (54, .bool false) :: (53, .tuple []) :: (52, .tuple []) :: (51, .tuple []) :: (50, .tuple []) :: (49, .tuple []) :: (48, .bool false) :: (47, .bool false) :: (46, .tuple []) :: (45, .tuple []) :: (44, .tuple []) :: (43, .tuple []) :: (42, .tuple []) :: (41, .tuple []) :: (40, .tuple []) :: (39, .bool false) :: (38, .bool false) :: (37, .tuple []) :: (36, .tuple []) :: (35, .tuple []) :: (34, .tuple []) :: (33, .bool false) :: (32, .bool false) :: (31, .tuple []) :: (30, .tuple []) :: (29, .tuple []) :: (28, .tuple []) :: (27, .tuple []) :: (26, .bool false) :: (25, .bool false) :: (24, .tuple []) :: (23, .tuple []) :: (22, .tuple []) :: (21, .tuple []) :: (20, .bool false) :: E3)
   refine oR 37 (p' := .fin) (eE := E13) (H' := (mkH [])) (by kernel_rfl) ?_
   exact oT (r := false) (xs := [.bool false]) (v := .bool false) (by kernel_rfl) (by kernel_rfl) (by kernel_rfl) (.pures (by kernel_rfl)) (by kernel_rfl)
 ·let E14 : Env := ((0, .bool false) :: (54, .bool false) :: (53, .tuple []) :: (52, .tuple []) :: (51, .tuple []) :: (50, .tuple []) :: (49, .tuple []) :: (48, .bool false) :: (47, .bool false) :: (46, .tuple []) :: (45, .tuple []) :: (44, .tuple []) :: (43, .tuple []) :: (42, .tuple []) :: (41, .tuple []) :: (40, .tuple []) :: (39, .bool false) :: (38, .bool false) :: (37, .tuple []) :: (36, .tuple []) :: (35, .tuple []) :: (34, .tuple []) :: (33, .bool false) :: (32, .bool false) :: (31, .tuple []) :: (30, .tuple []) :: (29, .tuple []) :: (28, .tuple []) :: (27, .tuple []) :: (26, .bool false) :: (25, .bool false) :: (24, .tuple []) :: (23, .tuple []) :: (22, .tuple []) :: (21, .tuple []) :: (20, .bool false) :: (19, .bool false) :: (18, .tuple []) :: (17, .tuple []) :: (16, .tuple []) :: (15, .bool false) :: E2)
  refine oR 42 (p' := .fin) (eE := E14) (H' := (mkH [])) (by kernel_rfl) ?_
  exact oT (r := false) (xs := [.bool false]) (v := .bool false) (by kernel_rfl) (by kernel_rfl) (by kernel_rfl) (.pures (by kernel_rfl)) (by kernel_rfl)
end
end Go.Proofs.Ytbmijiibfaacmaa.Am
set_option maxRecDepth 100000
set_option linter.unusedVariables false
namespace Go.Proofs.Ytbmijiibfaacmaa.Am
noncomputable section
open Go
def X9 : Fx Bool := ⟨Try.prog, cx, Try.f9, fun r => .bool r, 0, fun _ => H0, cxTi, cxOrd⟩
def g9c0 : List Nat := [102, 40, 120, 44, 32, 37, 105, 110, 10, 32, 121, 41, 32, 45, 62, 32, 122, 46, 10]
def g9c1 : List Nat := [102, 40, 120, 44, 32, 37, 105, 110, 10, 32, 121, 41, 32, 45, 62, 32, 122, 46]
def g9p0 : Pt := nav [0] (bodyAt Try.f9)
def g9p1 : Pt := nav [0, 0, 0, 0] g9p0
def g9p2 : Pt := nav [0, 0] g9p1
def g9p3 : Pt := nav [1, 0] g9p2
def g9p4 : Pt := nav [2, 0, 0] g9p2
def g9p6 : Pt := nav [0, 0, 0, 0] g9p4
def g9p7 : Pt := nav [0, 0, 0, 0] g9p6
def g9p8 : Pt := nav [0, 0, 0] g9p7
def g9p9 : Pt := nav [0, 0] g9p8
def g9p10 : Pt := nav [1, 0, 0, 0, 0, 0] g9p9
def g9p11 : Pt := nav [2, 0, 0] g9p9
def g9p12 : Pt := nav [0, 0] g9p10
def g9p13 : Pt := nav [0, 0, 0] g9p11
def g9p14 : Pt := nav [1] g9p12
def g9p15 : Pt := nav [2, 0, 0] g9p12
def g9p16 : Pt := nav [0, 0, 0, 0] g9p13
def g9p17 : Pt := nav [0, 0] g9p15
def g9p18 : Pt := nav [0, 0] g9p16
def g9p19 : Pt := nav [1] g9p17
def g9p20 : Pt := nav [2] g9p17
def g9p22 : Pt := nav [2, 0, 0, 0] g9p18
def g9p23 : Pt := nav [0, 0] g9p19
def g9p24 : Pt := nav [0, 0, 0, 0] g9p22
def g9p25 : Pt := nav [0, 0, 0] g9p24
def g9p26 : Pt := nav [0, 0] g9p25
def g9p27 : Pt := nav [1, 0, 0, 0, 0] g9p26
def g9p28 : Pt := nav [2, 0, 0] g9p26
def g9p29 : Pt := nav [0, 0, 0, 0] g9p27
def g9p30 : Pt := nav [0, 0] g9p29
def g9p32 : Pt := nav [2, 0, 0] g9p30
def g9p33 : Pt := nav [0] g9p32
def g9_l16 (k : Nat)  (a0 : (List Bool)) (a1 : (List Bool)) (x2_1 : ((List S46) × Int)) (x3_2 : (List S36)) (n : Nat) : (List Nat) → Int → Option Bool :=
 Nat.rec (motive := fun _ => (List Nat) → Int → Option Bool) (fun _ _ => none) (fun _ ih => fun (y16_0 : (List Nat)) (y16_1 : Int) => if (decide (y16_1 < (x3_2.length : Int))) then ((nthL a0 y16_1).bind fun x8_2 => jn (fun (z17 : (List Nat) × Int) => jn (fun (z18 : Bool × Int) => if z18.1 then (some false) else (ih y16_0 (fW .i64 (z18.2 + 1)))) (fun j18 => (nthL x3_2 z17.2).bind fun x10_2 => (nthL a0 z17.2).bind fun x10_7 => if (!(x10_2.f2 == x10_7)) then (j18 (true, z17.2)) else ((nthL x3_2 z17.2).bind fun x10_13 => (nthL a1 z17.2).bind fun x10_18 => if x10_18 then (if (!(x10_13.f3 == decide (0 < z17.2))) then (j18 (true, z17.2)) else ((nthL x3_2 z17.2).bind fun x10_31 => (g32 k y16_0 x2_1.1 (⟨x10_31.f0, x10_31.f1, x10_31.f2, x10_31.f3⟩ : S36)).bind fun x10_33 => j18 (!(eqL x10_33 z17.1), z17.2))) else (if (!(x10_13.f3 == false)) then (j18 (true, z17.2)) else ((nthL x3_2 z17.2).bind fun x10_31 => (g32 k y16_0 x2_1.1 (⟨x10_31.f0, x10_31.f1, x10_31.f2, x10_31.f3⟩ : S36)).bind fun x10_33 => j18 (!(eqL x10_33 z17.1), z17.2)))))) (fun j17 => if x8_2 then (j17 (([37, 32, 99] : List Nat), y16_1)) else (j17 ((g9c1 : List Nat), y16_1)))) else ((g27 k).bind fun x9_0 => some x9_0)) n
theorem g9_l16_s (k : Nat)  (a0 : (List Bool)) (a1 : (List Bool)) (x2_1 : ((List S46) × Int)) (x3_2 : (List S36)) (n : Nat) (y16_0 : (List Nat)) (y16_1 : Int) : g9_l16 k a0 a1 x2_1 x3_2 (n + 1) y16_0 y16_1 = (if (decide (y16_1 < (x3_2.length : Int))) then ((nthL a0 y16_1).bind fun x8_2 => jn (fun (z17 : (List Nat) × Int) => jn (fun (z18 : Bool × Int) => if z18.1 then (some false) else ((g9_l16 k a0 a1 x2_1 x3_2 n) y16_0 (fW .i64 (z18.2 + 1)))) (fun j18 => (nthL x3_2 z17.2).bind fun x10_2 => (nthL a0 z17.2).bind fun x10_7 => if (!(x10_2.f2 == x10_7)) then (j18 (true, z17.2)) else ((nthL x3_2 z17.2).bind fun x10_13 => (nthL a1 z17.2).bind fun x10_18 => if x10_18 then (if (!(x10_13.f3 == decide (0 < z17.2))) then (j18 (true, z17.2)) else ((nthL x3_2 z17.2).bind fun x10_31 => (g32 k y16_0 x2_1.1 (⟨x10_31.f0, x10_31.f1, x10_31.f2, x10_31.f3⟩ : S36)).bind fun x10_33 => j18 (!(eqL x10_33 z17.1), z17.2))) else (if (!(x10_13.f3 == false)) then (j18 (true, z17.2)) else ((nthL x3_2 z17.2).bind fun x10_31 => (g32 k y16_0 x2_1.1 (⟨x10_31.f0, x10_31.f1, x10_31.f2, x10_31.f3⟩ : S36)).bind fun x10_33 => j18 (!(eqL x10_33 z17.1), z17.2)))))) (fun j17 => if x8_2 then (j17 (([37, 32, 99] : List Nat), y16_1)) else (j17 ((g9c1 : List Nat), y16_1)))) else ((g27 k).bind fun x9_0 => some x9_0)) := rfl
theorem g9_l16_ok (k : Nat)  (a0 : (List Bool)) (a1 : (List Bool)) (x2_1 : ((List S46) × Int)) (x3_2 : (List S36))  : ∀ (n : Nat) (y16_0 : (List Nat)) (y16_1 : Int), Ok X9 g9p24 [(0, .vec (a0).length 1 ((a0).flatMap e4)), (1, .vec (a1).length 1 ((a1).flatMap e4)), (5, .str y16_0), (7, .vec (x2_1.1).length 3 ((x2_1.1).flatMap e47)), (9, .vec (x3_2).length 4 ((x3_2).flatMap e37)), (10, .int .i64 y16_1)] (mkH []) (g9_l16 k a0 a1 x2_1 x3_2 n y16_0 y16_1)
 | 0, _, _ => ok_none
 | n + 1, y16_0, y16_1 => by
  have ih := g9_l16_ok k a0 a1 x2_1 x3_2 n
  rw [g9_l16_s]
  refine ok_ent (p' := nav [0] g9p24) (by kernel_rfl) ?_
  let E17 : Env := [(63, .bool (decide (y16_1 < (x3_2.length : Int)))), (62, .int .i64 (x3_2.length : Int)), (61, .vec (x3_2).length 4 ((x3_2).flatMap e37)), (60, .int .i64 y16_1), (0, .vec (a0).length 1 ((a0).flatMap e4)), (1, .vec (a1).length 1 ((a1).flatMap e4)), (5, .str y16_0), (7, .vec (x2_1.1).length 3 ((x2_1.1).flatMap e47)), (9, .vec (x3_2).length 4 ((x3_2).flatMap e37)), (10, .int .i64 y16_1)]
  refine oR 8 (p' := g9p26) (eE := E17) (H' := (mkH [])) (by kernel_rfl) ?_
  refine oS 63 (b := decide (y16_1 < (x3_2.length : Int))) (by kernel_rfl) (fun hb => ?_) (fun hb => ?_)
  ·refine oR 13 (p' := (atN 2 (ctl1 g9p29))) (eE := ((67, .int .i64 y16_1) :: (66, .vec (a0).length 1 ((a0).flatMap e4)) :: (11, .str g9c1) :: (63, .bool true) :: E17)) (H' := (mkH [])) (by kernel_rfl) ?_
   refine oH (fun (x8_2 : Bool) => (.vptr [.bool x8_2], (mkH []))) (atN 3 (ctl1 g9p29)) (fun x8_2 => ((68, .vptr [.bool x8_2]) :: (67, .int .i64 y16_1) :: (66, .vec (a0).length 1 ((a0).flatMap e4)) :: (11, .str g9c1) :: (63, .bool true) :: E17)) (vidxH (sz := 1) e4_len (by kernel_rfl)) (fun _ => by kernel_rfl) (fun x8_2 hx8_2 => ?_)
   let E18 : Env := ((69, .bool x8_2) :: (68, .vptr [.bool x8_2]) :: (67, .int .i64 y16_1) :: (66, .vec (a0).length 1 ((a0).flatMap e4)) :: (11, .str g9c1) :: (63, .bool true) :: E17)
   refine oR 2 (p' := g9p30) (eE := E18) (H' := (mkH [])) (by kernel_rfl) ?_
   refine oK [0, 1, 5, 7, 9, 10, 11, 69] (eE := [(0, .vec (a0).length 1 ((a0).flatMap e4)), (1, .vec (a1).length 1 ((a1).flatMap e4)), (5, .str y16_0), (7, .vec (x2_1.1).length 3 ((x2_1.1).flatMap e47)), (9, .vec (x3_2).length 4 ((x3_2).flatMap e37)), (10, .int .i64 y16_1), (11, .str g9c1), (69, .bool x8_2)]) (by kernel_rfl) ?_
   refine oJ (f := fun (z17 : (List Nat) × Int) => jn (fun (z18 : Bool × Int) => if z18.1 then (some false) else ((g9_l16 k a0 a1 x2_1 x3_2 n) y16_0 (fW .i64 (z18.2 + 1)))) (fun j18 => (nthL x3_2 z17.2).bind fun x10_2 => (nthL a0 z17.2).bind fun x10_7 => if (!(x10_2.f2 == x10_7)) then (j18 (true, z17.2)) else ((nthL x3_2 z17.2).bind fun x10_13 => (nthL a1 z17.2).bind fun x10_18 => if x10_18 then (if (!(x10_13.f3 == decide (0 < z17.2))) then (j18 (true, z17.2)) else ((nthL x3_2 z17.2).bind fun x10_31 => (g32 k y16_0 x2_1.1 (⟨x10_31.f0, x10_31.f1, x10_31.f2, x10_31.f3⟩ : S36)).bind fun x10_33 => j18 (!(eqL x10_33 z17.1), z17.2))) else (if (!(x10_13.f3 == false)) then (j18 (true, z17.2)) else ((nthL x3_2 z17.2).bind fun x10_31 => (g32 k y16_0 x2_1.1 (⟨x10_31.f0, x10_31.f1, x10_31.f2, x10_31.f3⟩ : S36)).bind fun x10_33 => j18 (!(eqL x10_33 z17.1), z17.2)))))) g9p32 (fun (z17 : (List Nat) × Int) => [(0, .vec (a0).length 1 ((a0).flatMap e4)), (1, .vec (a1).length 1 ((a1).flatMap e4)), (5, .str y16_0), (7, .vec (x2_1.1).length 3 ((x2_1.1).flatMap e47)), (9, .vec (x3_2).length 4 ((x3_2).flatMap e37)), (10, .int .i64 z17.2), (11, .str z17.1)]) (fun (z17 : (List Nat) × Int) => (mkH [])) (fun z17 => ?_) (fun j17 hj17 => ?_)
   ·refine oJ (f := fun (z18 : Bool × Int) => if z18.1 then (some false) else ((g9_l16 k a0 a1 x2_1 x3_2 n) y16_0 (fW .i64 (z18.2 + 1)))) g9p33 (fun (z18 : Bool × Int) => [(0, .vec (a0).length 1 ((a0).flatMap e4)), (1, .vec (a1).length 1 ((a1).flatMap e4)), (5, .str y16_0), (7, .vec (x2_1.1).length 3 ((x2_1.1).flatMap e47)), (9, .vec (x3_2).length 4 ((x3_2).flatMap e37)), (10, .int .i64 z18.2), (106, .bool z18.1)]) (fun (z18 : Bool × Int) => (mkH [])) (fun z18 => ?_) (fun j18 hj18 => ?_)
    ·refine oS 106 (b := z18.1) (by kernel_rfl) (fun hb => ?_) (fun hb => ?_)
     ·let E21 : Env := [(4, .bool false), (106, .bool true), (0, .vec (a0).length 1 ((a0).flatMap e4)), (1, .vec (a1).length 1 ((a1).flatMap e4)), (5, .str y16_0), (7, .vec (x2_1.1).length 3 ((x2_1.1).flatMap e47)), (9, .vec (x3_2).length 4 ((x3_2).flatMap e37)), (10, .int .i64 z18.2), (106, .bool z18.1)]
      refine oR 6 (p' := .fin) (eE := E21) (H' := (mkH [])) (by kernel_rfl) ?_
      exact oT (r := false) (xs := [.bool false]) (v := .bool false) (by kernel_rfl) (by kernel_rfl) (by kernel_rfl) (.pures (by kernel_rfl)) (by kernel_rfl)
     ·let E22 : Env := [(10, .int .i64 (fW .i64 (z18.2 + 1))), (65, .int .i64 (fW .i64 (z18.2 + 1))), (64, .int .i64 z18.2), (106, .bool false), (0, .vec (a0).length 1 ((a0).flatMap e4)), (1, .vec (a1).length 1 ((a1).flatMap e4)), (5, .str y16_0), (7, .vec (x2_1.1).length 3 ((x2_1.1).flatMap e47)), (9, .vec (x3_2).length 4 ((x3_2).flatMap e37)), (10, .int .i64 z18.2), (106, .bool z18.1)]
      refine oR 7 (p' := g9p24) (eE := E22) (H' := (mkH [])) (by kernel_rfl) ?_
      refine oK [0, 1, 5, 7, 9, 10] (eE := [(0, .vec (a0).length 1 ((a0).flatMap e4)), (1, .vec (a1).length 1 ((a1).flatMap e4)), (5, .str y16_0), (7, .vec (x2_1.1).length 3 ((x2_1.1).flatMap e47)), (9, .vec (x3_2).length 4 ((x3_2).flatMap e37)), (10, .int .i64 (fW .i64 (z18.2 + 1)))]) (by kernel_rfl) ?_
      exact ih y16_0 (fW .i64 (z18.2 + 1))
    ·refine ok_bind (fun x10_2 hx10_2 => ?_)
     refine ok_bind (fun x10_7 hx10_7 => ?_)
     refine ok_if (fun hb13 => ?_) (fun hb13 => ?_)
     ·let E23 : Env := [(71, .int .i64 z17.2), (70, .vec (x3_2).length 4 ((x3_2).flatMap e37)), (0, .vec (a0).length 1 ((a0).flatMap e4)), (1, .vec (a1).length 1 ((a1).flatMap e4)), (5, .str y16_0), (7, .vec (x2_1.1).length 3 ((x2_1.1).flatMap e47)), (9, .vec (x3_2).length 4 ((x3_2).flatMap e37)), (10, .int .i64 z17.2), (11, .str z17.1)]
      let E24 : Env := ((76, .int .i64 z17.2) :: (75, .vec (a0).length 1 ((a0).flatMap e4)) :: (74, .bool x10_2.f2) :: (73, .vptr [.bool x10_2.f2, .bool x10_2.f3]) :: (72, .vptr [.int .i64 x10_2.f0, .int .i64 x10_2.f1, .bool x10_2.f2, .bool x10_2.f3]) :: E23)
      let E25 : Env := ((106, .bool true) :: (105, .tuple []) :: (104, .tuple []) :: (103, .tuple []) :: (102, .tuple []) :: (101, .tuple []) :: (100, .tuple []) :: (99, .tuple []) :: (98, .tuple []) :: (97, .tuple []) :: (96, .bool true) :: (95, .bool true) :: (94, .tuple []) :: (93, .tuple []) :: (92, .tuple []) :: (91, .tuple []) :: (90, .tuple []) :: (89, .tuple []) :: (88, .tuple []) :: (87, .tuple []) :: (86, .tuple []) :: (85, .tuple []) :: (84, .tuple []) :: (83, .tuple []) :: (82, .tuple []) :: (81, .tuple []) :: (80, .bool true) :: (79, .bool true) :: (78, .bool x10_7) :: (77, .vptr [.bool x10_7]) :: E24)
      refine ok_draw (p' := nav [0] g9p32) (eE := E25) (H' := (mkH [])) (hs := [(mkH [])]) [(0, 0, 0), (0, 0, 0), (3, 0, 0), (7, 0, 0), (15, 0, 0), (0, 0, 0), (0, 0, 0), (96, 0, 0), (224, 0, 0), (511, 0, 0), (1023, 0, 0), (2047, 0, 0), (2047, 0, 0), (8191, 0, 0), (16383, 0, 0), (32767, 0, 0), (2047, 0, 0), (2047, 0, 0), (198655, 0, 0), (460799, 0, 0), (985087, 0, 0), (2033663, 0, 0), (4130815, 0, 0), (8325119, 0, 0), (16777215, 0, 0), (33554431, 0, 0), (67108863, 0, 0), (134217727, 0, 0), (134217727, 0, 0), (134217727, 0, 0), (134217727, 0, 0), (1744830463, 0, 0), (3892314111, 0, 0), (8589934591, 0, 0), (134217727, 0, 0), (34359738367, 0, 0), (68719476735, 0, 0)] (by kernel_rfl) (by kernel_rfl) (by kernel_rfl) (opsD_run 2 (l' := (opsAt g9p32).toList.drop 2) (eE := E23) (H' := (mkH [])) (hs := []) (by kernel_rfl) (opsD_chk (l' := (opsAt g9p32).toList.drop 3) (eE := ((72, .vptr [.int .i64 x10_2.f0, .int .i64 x10_2.f1, .bool x10_2.f2, .bool x10_2.f3]) :: E23)) (hs := []) (x := x10_2) (fun (x10_2 : S36) => (.vptr [.int .i64 x10_2.f0, .int .i64 x10_2.f1, .bool x10_2.f2, .bool x10_2.f3], (mkH []))) (vidxH (sz := 4) e37_len (by kernel_rfl)) hx10_2 (by kernel_rfl) (opsD_run 4 (l' := (opsAt g9p32).toList.drop 7) (eE := E24) (H' := (mkH [])) (hs := []) (by kernel_rfl) (opsD_chk (l' := (opsAt g9p32).toList.drop 8) (eE := ((77, .vptr [.bool x10_7]) :: E24)) (hs := []) (x := x10_7) (fun (x10_7 : Bool) => (.vptr [.bool x10_7], (mkH []))) (vidxH (sz := 1) e4_len (by kernel_rfl)) hx10_7 (by kernel_rfl) (opsD_run 3 (l' := (opsAt g9p32).toList.drop 11) (eE := ((80, .bool (!(x10_2.f2 == x10_7))) :: (79, .bool (!(x10_2.f2 == x10_7))) :: (78, .bool x10_7) :: (77, .vptr [.bool x10_7]) :: E24)) (H' := (mkH [])) (hs := []) (by kernel_rfl) (opsD_env (eE := ((80, .bool true) :: (79, .bool true) :: (78, .bool x10_7) :: (77, .vptr [.bool x10_7]) :: E24)) (congrArg (fun z : Bool => (((80, .bool z) :: (79, .bool z) :: (78, .bool x10_7) :: (77, .vptr [.bool x10_7]) :: E24) : Env)) hb13) (opsD_run 26 (l' := (opsAt g9p32).toList.drop 37) (eE := E25) (H' := (mkH [])) (hs := [(mkH [])]) (by kernel_rfl) (.nil)))))))) (by kernel_rfl) (by kernel_rfl) (by kernel_rfl) ?_
      refine oK [0, 1, 5, 7, 9, 10, 106] (eE := [(0, .vec (a0).length 1 ((a0).flatMap e4)), (1, .vec (a1).length 1 ((a1).flatMap e4)), (5, .str y16_0), (7, .vec (x2_1.1).length 3 ((x2_1.1).flatMap e47)), (9, .vec (x3_2).length 4 ((x3_2).flatMap e37)), (10, .int .i64 z17.2), (106, .bool true)]) (by kernel_rfl) ?_
      exact hj18 (true, z17.2)
     ·refine ok_bind (fun x10_13 hx10_13 => ?_)
      refine ok_bind (fun x10_18 hx10_18 => ?_)
      refine ok_if (fun hb14 => ?_) (fun hb14 => ?_)
      ·refine ok_if (fun hb15 => ?_) (fun hb15 => ?_)
       ·let E23 : Env := [(71, .int .i64 z17.2), (70, .vec (x3_2).length 4 ((x3_2).flatMap e37)), (0, .vec (a0).length 1 ((a0).flatMap e4)), (1, .vec (a1).length 1 ((a1).flatMap e4)), (5, .str y16_0), (7, .vec (x2_1.1).length 3 ((x2_1.1).flatMap e47)), (9, .vec (x3_2).length 4 ((x3_2).flatMap e37)), (10, .int .i64 z17.2), (11, .str z17.1)]
        let E24 : Env := ((76, .int .i64 z17.2) :: (75, .vec (a0).length 1 ((a0).flatMap e4)) :: (74, .bool x10_2.f2) :: (73, .vptr [.bool x10_2.f2, .bool x10_2.f3]) :: (72, .vptr [.int .i64 x10_2.f0, .int .i64 x10_2.f1, .bool x10_2.f2, .bool x10_2.f3]) :: E23)
        let E26 : Env := ((82, .int .i64 z17.2) :: (81, .vec (x3_2).length 4 ((x3_2).flatMap e37)) :: (80, .bool false) :: (79, .bool false) :: (78, .bool x10_7) :: (77, .vptr [.bool x10_7]) :: E24)
        let E27 : Env := ((87, .int .i64 z17.2) :: (86, .vec (a1).length 1 ((a1).flatMap e4)) :: (85, .bool x10_13.f3) :: (84, .vptr [.bool x10_13.f3]) :: (83, .vptr [.int .i64 x10_13.f0, .int .i64 x10_13.f1, .bool x10_13.f2, .bool x10_13.f3]) :: E26)
        let E28 : Env := ((96, .bool (!(x10_13.f3 == decide (0 < z17.2)))) :: (95, .bool (!(x10_13.f3 == decide (0 < z17.2)))) :: (94, .bool (!(x10_13.f3 == decide (0 < z17.2)))) :: (93, .bool (decide (0 < z17.2))) :: (92, .bool (decide (0 < z17.2))) :: (91, .int .i64 z17.2) :: (90, .bool true) :: (89, .bool true) :: (88, .vptr [.bool x10_18]) :: E27)
        let E29 : Env := [(106, .bool true), (105, .tuple []), (104, .tuple []), (103, .tuple []), (102, .tuple []), (101, .tuple []), (100, .tuple []), (99, .tuple []), (98, .tuple []), (97, .tuple []), (96, .bool true), (95, .bool true), (94, .bool true), (93, .bool (decide (0 < z17.2))), (92, .bool (decide (0 < z17.2))), (91, .int .i64 z17.2), (90, .bool true), (89, .bool true), (88, .vptr [.bool x10_18]), (87, .int .i64 z17.2), (86, .vec (a1).length 1 ((a1).flatMap e4)), (85, .bool x10_13.f3), (84, .vptr [.bool x10_13.f3]), (83, .vptr [.int .i64 x10_13.f0, .int .i64 x10_13.f1, .bool x10_13.f2, .bool x10_13.f3]), (82, .int .i64 z17.2), (81, .vec (x3_2).length 4 ((x3_2).flatMap e37)), (80, .bool false), (79, .bool false), (78, .bool x10_7), (77, .vptr [.bool x10_7]), (76, .int .i64 z17.2), (75, .vec (a0).length 1 ((a0).flatMap e4)), (74, .bool x10_2.f2), (73, .vptr [.bool x10_2.f2, .bool x10_2.f3]), (72, .vptr [.int .i64 x10_2.f0, .int .i64 x10_2.f1, .bool x10_2.f2, .bool x10_2.f3]), (71, .int .i64 z17.2), (70, .vec (x3_2).length 4 ((x3_2).flatMap e37)), (0, .vec (a0).length 1 ((a0).flatMap e4)), (1, .vec (a1).length 1 ((a1).flatMap e4)), (5, .str y16_0), (7, .vec (x2_1.1).length 3 ((x2_1.1).flatMap e47)), (9, .vec (x3_2).length 4 ((x3_2).flatMap e37)), (10, .int .i64 z17.2), (11, .str z17.1)]
        refine ok_draw (p' := nav [0] g9p32) (eE := E29) (H' := (mkH [])) (hs := [(mkH [])]) [(0, 0, 0), (0, 0, 0), (3, 0, 0), (7, 0, 0), (15, 0, 0), (0, 0, 0), (0, 0, 0), (96, 0, 0), (224, 0, 0), (511, 0, 0), (1023, 0, 0), (2047, 0, 0), (2047, 0, 0), (8191, 0, 0), (16383, 0, 0), (32767, 0, 0), (2047, 0, 0), (2047, 0, 0), (198655, 0, 0), (460799, 0, 0), (985087, 0, 0), (2033663, 0, 0), (4130815, 0, 0), (8325119, 0, 0), (16777215, 0, 0), (33554431, 0, 0), (67108863, 0, 0), (134217727, 0, 0), (134217727, 0, 0), (134217727, 0, 0), (134217727, 0, 0), (1744830463, 0, 0), (3892314111, 0, 0), (8589934591, 0, 0), (134217727, 0, 0), (34359738367, 0, 0), (68719476735, 0, 0)] (by kernel_rfl) (by kernel_rfl) (by kernel_rfl) (opsD_run 2 (l' := (opsAt g9p32).toList.drop 2) (eE := E23) (H' := (mkH [])) (hs := []) (by kernel_rfl) (opsD_chk (l' := (opsAt g9p32).toList.drop 3) (eE := ((72, .vptr [.int .i64 x10_2.f0, .int .i64 x10_2.f1, .bool x10_2.f2, .bool x10_2.f3]) :: E23)) (hs := []) (x := x10_2) (fun (x10_2 : S36) => (.vptr [.int .i64 x10_2.f0, .int .i64 x10_2.f1, .bool x10_2.f2, .bool x10_2.f3], (mkH []))) (vidxH (sz := 4) e37_len (by kernel_rfl)) hx10_2 (by kernel_rfl) (opsD_run 4 (l' := (opsAt g9p32).toList.drop 7) (eE := E24) (H' := (mkH [])) (hs := []) (by kernel_rfl) (opsD_chk (l' := (opsAt g9p32).toList.drop 8) (eE := ((77, .vptr [.bool x10_7]) :: E24)) (hs := []) (x := x10_7) (fun (x10_7 : Bool) => (.vptr [.bool x10_7], (mkH []))) (vidxH (sz := 1) e4_len (by kernel_rfl)) hx10_7 (by kernel_rfl) (opsD_run 3 (l' := (opsAt g9p32).toList.drop 11) (eE := ((80, .bool (!(x10_2.f2 == x10_7))) :: (79, .bool (!(x10_2.f2 == x10_7))) :: (78, .bool x10_7) :: (77, .vptr [.bool x10_7]) :: E24)) (H' := (mkH [])) (hs := []) (by kernel_rfl) (opsD_env (eE := ((80, .bool false) :: (79, .bool false) :: (78, .bool x10_7) :: (77, .vptr [.bool x10_7]) :: E24)) (congrArg (fun z : Bool => (((80, .bool z) :: (79, .bool z) :: (78, .bool x10_7) :: (77, .vptr [.bool x10_7]) :: E24) : Env)) hb13) (opsD_run 2 (l' := (opsAt g9p32).toList.drop 13) (eE := E26) (H' := (mkH [])) (hs := []) (by kernel_rfl) (opsD_chk (l' := (opsAt g9p32).toList.drop 14) (eE := ((83, .vptr [.int .i64 x10_13.f0, .int .i64 x10_13.f1, .bool x10_13.f2, .bool x10_13.f3]) :: E26)) (hs := []) (x := x10_13) (fun (x10_13 : S36) => (.vptr [.int .i64 x10_13.f0, .int .i64 x10_13.f1, .bool x10_13.f2, .bool x10_13.f3], (mkH []))) (vidxH (sz := 4) e37_len (by kernel_rfl)) hx10_13 (by kernel_rfl) (opsD_run 4 (l' := (opsAt g9p32).toList.drop 18) (eE := E27) (H' := (mkH [])) (hs := []) (by kernel_rfl) (opsD_chk (l' := (opsAt g9p32).toList.drop 19) (eE := ((88, .vptr [.bool x10_18]) :: E27)) (hs := []) (x := x10_18) (fun (x10_18 : Bool) => (.vptr [.bool x10_18], (mkH []))) (vidxH (sz := 1) e4_len (by kernel_rfl)) hx10_18 (by kernel_rfl) (opsD_run 2 (l' := (opsAt g9p32).toList.drop 21) (eE := ((90, .bool x10_18) :: (89, .bool x10_18) :: (88, .vptr [.bool x10_18]) :: E27)) (H' := (mkH [])) (hs := []) (by kernel_rfl) (opsD_env (eE := ((90, .bool true) :: (89, .bool true) :: (88, .vptr [.bool x10_18]) :: E27)) (congrArg (fun z : Bool => (((90, .bool z) :: (89, .bool z) :: (88, .vptr [.bool x10_18]) :: E27) : Env)) hb14) (opsD_run 6 (l' := (opsAt g9p32).toList.drop 27) (eE := E28) (H' := (mkH [])) (hs := []) (by kernel_rfl) (opsD_env (eE := [(96, .bool true), (95, .bool true), (94, .bool true), (93, .bool (decide (0 < z17.2))), (92, .bool (decide (0 < z17.2))), (91, .int .i64 z17.2), (90, .bool true), (89, .bool true), (88, .vptr [.bool x10_18]), (87, .int .i64 z17.2), (86, .vec (a1).length 1 ((a1).flatMap e4)), (85, .bool x10_13.f3), (84, .vptr [.bool x10_13.f3]), (83, .vptr [.int .i64 x10_13.f0, .int .i64 x10_13.f1, .bool x10_13.f2, .bool x10_13.f3]), (82, .int .i64 z17.2), (81, .vec (x3_2).length 4 ((x3_2).flatMap e37)), (80, .bool false), (79, .bool false), (78, .bool x10_7), (77, .vptr [.bool x10_7]), (76, .int .i64 z17.2), (75, .vec (a0).length 1 ((a0).flatMap e4)), (74, .bool x10_2.f2), (73, .vptr [.bool x10_2.f2, .bool x10_2.f3]), (72, .vptr [.int .i64 x10_2.f0, .int .i64 x10_2.f1, .bool x10_2.f2, .bool x10_2.f3]), (71, .int .i64 z17.2), (70, .vec (x3_2).length 4 ((x3_2).flatMap e37)), (0, .vec (a0).length 1 ((a0).flatMap e4)), (1, .vec (a1).length 1 ((a1).flatMap e4)), (5, .str y16_0), (7, .vec (x2_1.1).length 3 ((x2_1.1).flatMap e47)), (9, .vec (x3_2).length 4 ((x3_2).flatMap e37)), (10, .int .i64 z17.2), (11, .str z17.1)]) (congrArg (fun z : Bool => ([(96, .bool z), (95, .bool z), (94, .bool z), (93, .bool (decide (0 < z17.2))), (92, .bool (decide (0 < z17.2))), (91, .int .i64 z17.2), (90, .bool true), (89, .bool true), (88, .vptr [.bool x10_18]), (87, .int .i64 z17.2), (86, .vec (a1).length 1 ((a1).flatMap e4)), (85, .bool x10_13.f3), (84, .vptr [.bool x10_13.f3]), (83, .vptr [.int .i64 x10_13.f0, .int .i64 x10_13.f1, .bool x10_13.f2, .bool x10_13.f3]), (82, .int .i64 z17.2), (81, .vec (x3_2).length 4 ((x3_2).flatMap e37)), (80, .bool false), (79, .bool false), (78, .bool x10_7), (77, .vptr [.bool x10_7]), (76, .int .i64 z17.2), (75, .vec (a0).length 1 ((a0).flatMap e4)), (74, .bool x10_2.f2), (73, .vptr [.bool x10_2.f2, .bool x10_2.f3]), (72, .vptr [.int .i64 x10_2.f0, .int .i64 x10_2.f1, .bool x10_2.f2, .bool x10_2.f3]), (71, .int .i64 z17.2), (70, .vec (x3_2).length 4 ((x3_2).flatMap e37)), (0, .vec (a0).length 1 ((a0).flatMap e4)), (1, .vec (a1).length 1 ((a1).flatMap e4)), (5, .str y16_0), (7, .vec (x2_1.1).length 3 ((x2_1.1).flatMap e47)), (9, .vec (x3_2).length 4 ((x3_2).flatMap e37)), (10, .int .i64 z17.2), (11, .str z17.1)] : Env)) hb15) (opsD_run 10 (l' := (opsAt g9p32).toList.drop 37) (eE := E29) (H' := (mkH [])) (hs := [(mkH [])]) (by kernel_rfl) (.nil)))))))))))))))) (by kernel_rfl) (by kernel_rfl) (by kernel_rfl) ?_
        refine oK [0, 1, 5, 7, 9, 10, 106] (eE := [(0, .vec (a0).length 1 ((a0).flatMap e4)), (1, .vec (a1).length 1 ((a1).flatMap e4)), (5, .str y16_0), (7, .vec (x2_1.1).length 3 ((x2_1.1).flatMap e47)), (9, .vec (x3_2).length 4 ((x3_2).flatMap e37)), (10, .int .i64 z17.2), (106, .bool true)]) (by kernel_rfl) ?_
        exact hj18 (true, z17.2)
       ·refine ok_bind (fun x10_31 hx10_31 => ?_)
        refine ok_bind (fun x10_33 hx10_33 => ?_)
        let E23 : Env := [(71, .int .i64 z17.2), (70, .vec (x3_2).length 4 ((x3_2).flatMap e37)), (0, .vec (a0).length 1 ((a0).flatMap e4)), (1, .vec (a1).length 1 ((a1).flatMap e4)), (5, .str y16_0), (7, .vec (x2_1.1).length 3 ((x2_1.1).flatMap e47)), (9, .vec (x3_2).length 4 ((x3_2).flatMap e37)), (10, .int .i64 z17.2), (11, .str z17.1)]
        let E24 : Env := ((76, .int .i64 z17.2) :: (75, .vec (a0).length 1 ((a0).flatMap e4)) :: (74, .bool x10_2.f2) :: (73, .vptr [.bool x10_2.f2, .bool x10_2.f3]) :: (72, .vptr [.int .i64 x10_2.f0, .int .i64 x10_2.f1, .bool x10_2.f2, .bool x10_2.f3]) :: E23)
        let E26 : Env := ((82, .int .i64 z17.2) :: (81, .vec (x3_2).length 4 ((x3_2).flatMap e37)) :: (80, .bool false) :: (79, .bool false) :: (78, .bool x10_7) :: (77, .vptr [.bool x10_7]) :: E24)
        let E27 : Env := ((87, .int .i64 z17.2) :: (86, .vec (a1).length 1 ((a1).flatMap e4)) :: (85, .bool x10_13.f3) :: (84, .vptr [.bool x10_13.f3]) :: (83, .vptr [.int .i64 x10_13.f0, .int .i64 x10_13.f1, .bool x10_13.f2, .bool x10_13.f3]) :: E26)
        let E28 : Env := ((96, .bool (!(x10_13.f3 == decide (0 < z17.2)))) :: (95, .bool (!(x10_13.f3 == decide (0 < z17.2)))) :: (94, .bool (!(x10_13.f3 == decide (0 < z17.2)))) :: (93, .bool (decide (0 < z17.2))) :: (92, .bool (decide (0 < z17.2))) :: (91, .int .i64 z17.2) :: (90, .bool true) :: (89, .bool true) :: (88, .vptr [.bool x10_18]) :: E27)
        let E30 : Env := [(100, .int .i64 z17.2), (99, .vec (x3_2).length 4 ((x3_2).flatMap e37)), (98, .vec (x2_1.1).length 3 ((x2_1.1).flatMap e47)), (97, .str y16_0), (96, .bool false), (95, .bool false), (94, .bool false), (93, .bool (decide (0 < z17.2))), (92, .bool (decide (0 < z17.2))), (91, .int .i64 z17.2), (90, .bool true), (89, .bool true), (88, .vptr [.bool x10_18]), (87, .int .i64 z17.2), (86, .vec (a1).length 1 ((a1).flatMap e4)), (85, .bool x10_13.f3), (84, .vptr [.bool x10_13.f3]), (83, .vptr [.int .i64 x10_13.f0, .int .i64 x10_13.f1, .bool x10_13.f2, .bool x10_13.f3]), (82, .int .i64 z17.2), (81, .vec (x3_2).length 4 ((x3_2).flatMap e37)), (80, .bool false), (79, .bool false), (78, .bool x10_7), (77, .vptr [.bool x10_7]), (76, .int .i64 z17.2), (75, .vec (a0).length 1 ((a0).flatMap e4)), (74, .bool x10_2.f2), (73, .vptr [.bool x10_2.f2, .bool x10_2.f3]), (72, .vptr [.int .i64 x10_2.f0, .int .i64 x10_2.f1, .bool x10_2.f2, .bool x10_2.f3]), (71, .int .i64 z17.2), (70, .vec (x3_2).length 4 ((x3_2).flatMap e37)), (0, .vec (a0).length 1 ((a0).flatMap e4)), (1, .vec (a1).length 1 ((a1).flatMap e4)), (5, .str y16_0), (7, .vec (x2_1.1).length 3 ((x2_1.1).flatMap e47)), (9, .vec (x3_2).length 4 ((x3_2).flatMap e37)), (10, .int .i64 z17.2), (11, .str z17.1)]
        let E31 : Env := ((106, .bool (!(eqL x10_33 z17.1))) :: (105, .bool (!(eqL x10_33 z17.1))) :: (104, .str z17.1) :: (103, .str x10_33) :: (102, .agg [.int .i64 x10_31.f0, .int .i64 x10_31.f1, .bool x10_31.f2, .bool x10_31.f3]) :: (101, .vptr [.int .i64 x10_31.f0, .int .i64 x10_31.f1, .bool x10_31.f2, .bool x10_31.f3]) :: E30)
        refine ok_draw (p' := nav [0] g9p32) (eE := E31) (H' := (mkH [])) (hs := [(mkH [])]) [(0, 0, 0), (0, 0, 0), (3, 0, 0), (7, 0, 0), (15, 0, 0), (0, 0, 0), (0, 0, 0), (96, 0, 0), (224, 0, 0), (511, 0, 0), (1023, 0, 0), (2047, 0, 0), (2047, 0, 0), (8191, 0, 0), (16383, 0, 0), (32767, 0, 0), (2047, 0, 0), (2047, 0, 0), (198655, 0, 0), (460799, 0, 0), (985087, 0, 0), (2033663, 0, 0), (4130815, 0, 0), (8325119, 0, 0), (16777215, 0, 0), (33554431, 0, 0), (67108863, 0, 0), (134217727, 0, 0), (134217727, 0, 0), (134217727, 0, 0), (134217727, 0, 0), (1744830463, 0, 0), (3892314111, 0, 0), (8589934591, 0, 0), (134217727, 0, 0), (34359738367, 0, 0), (68719476735, 0, 0)] (by kernel_rfl) (by kernel_rfl) (by kernel_rfl) (opsD_run 2 (l' := (opsAt g9p32).toList.drop 2) (eE := E23) (H' := (mkH [])) (hs := []) (by kernel_rfl) (opsD_chk (l' := (opsAt g9p32).toList.drop 3) (eE := ((72, .vptr [.int .i64 x10_2.f0, .int .i64 x10_2.f1, .bool x10_2.f2, .bool x10_2.f3]) :: E23)) (hs := []) (x := x10_2) (fun (x10_2 : S36) => (.vptr [.int .i64 x10_2.f0, .int .i64 x10_2.f1, .bool x10_2.f2, .bool x10_2.f3], (mkH []))) (vidxH (sz := 4) e37_len (by kernel_rfl)) hx10_2 (by kernel_rfl) (opsD_run 4 (l' := (opsAt g9p32).toList.drop 7) (eE := E24) (H' := (mkH [])) (hs := []) (by kernel_rfl) (opsD_chk (l' := (opsAt g9p32).toList.drop 8) (eE := ((77, .vptr [.bool x10_7]) :: E24)) (hs := []) (x := x10_7) (fun (x10_7 : Bool) => (.vptr [.bool x10_7], (mkH []))) (vidxH (sz := 1) e4_len (by kernel_rfl)) hx10_7 (by kernel_rfl) (opsD_run 3 (l' := (opsAt g9p32).toList.drop 11) (eE := ((80, .bool (!(x10_2.f2 == x10_7))) :: (79, .bool (!(x10_2.f2 == x10_7))) :: (78, .bool x10_7) :: (77, .vptr [.bool x10_7]) :: E24)) (H' := (mkH [])) (hs := []) (by kernel_rfl) (opsD_env (eE := ((80, .bool false) :: (79, .bool false) :: (78, .bool x10_7) :: (77, .vptr [.bool x10_7]) :: E24)) (congrArg (fun z : Bool => (((80, .bool z) :: (79, .bool z) :: (78, .bool x10_7) :: (77, .vptr [.bool x10_7]) :: E24) : Env)) hb13) (opsD_run 2 (l' := (opsAt g9p32).toList.drop 13) (eE := E26) (H' := (mkH [])) (hs := []) (by kernel_rfl) (opsD_chk (l' := (opsAt g9p32).toList.drop 14) (eE := ((83, .vptr [.int .i64 x10_13.f0, .int .i64 x10_13.f1, .bool x10_13.f2, .bool x10_13.f3]) :: E26)) (hs := []) (x := x10_13) (fun (x10_13 : S36) => (.vptr [.int .i64 x10_13.f0, .int .i64 x10_13.f1, .bool x10_13.f2, .bool x10_13.f3], (mkH []))) (vidxH (sz := 4) e37_len (by kernel_rfl)) hx10_13 (by kernel_rfl) (opsD_run 4 (l' := (opsAt g9p32).toList.drop 18) (eE := E27) (H' := (mkH [])) (hs := []) (by kernel_rfl) (opsD_chk (l' := (opsAt g9p32).toList.drop 19) (eE := ((88, .vptr [.bool x10_18]) :: E27)) (hs := []) (x := x10_18) (fun (x10_18 : Bool) => (.vptr [.bool x10_18], (mkH []))) (vidxH (sz := 1) e4_len (by kernel_rfl)) hx10_18 (by kernel_rfl) (opsD_run 2 (l' := (opsAt g9p32).toList.drop 21) (eE := ((90, .bool x10_18) :: (89, .bool x10_18) :: (88, .vptr [.bool x10_18]) :: E27)) (H' := (mkH [])) (hs := []) (by kernel_rfl) (opsD_env (eE := ((90, .bool true) :: (89, .bool true) :: (88, .vptr [.bool x10_18]) :: E27)) (congrArg (fun z : Bool => (((90, .bool z) :: (89, .bool z) :: (88, .vptr [.bool x10_18]) :: E27) : Env)) hb14) (opsD_run 6 (l' := (opsAt g9p32).toList.drop 27) (eE := E28) (H' := (mkH [])) (hs := []) (by kernel_rfl) (opsD_env (eE := [(96, .bool false), (95, .bool false), (94, .bool false), (93, .bool (decide (0 < z17.2))), (92, .bool (decide (0 < z17.2))), (91, .int .i64 z17.2), (90, .bool true), (89, .bool true), (88, .vptr [.bool x10_18]), (87, .int .i64 z17.2), (86, .vec (a1).length 1 ((a1).flatMap e4)), (85, .bool x10_13.f3), (84, .vptr [.bool x10_13.f3]), (83, .vptr [.int .i64 x10_13.f0, .int .i64 x10_13.f1, .bool x10_13.f2, .bool x10_13.f3]), (82, .int .i64 z17.2), (81, .vec (x3_2).length 4 ((x3_2).flatMap e37)), (80, .bool false), (79, .bool false), (78, .bool x10_7), (77, .vptr [.bool x10_7]), (76, .int .i64 z17.2), (75, .vec (a0).length 1 ((a0).flatMap e4)), (74, .bool x10_2.f2), (73, .vptr [.bool x10_2.f2, .bool x10_2.f3]), (72, .vptr [.int .i64 x10_2.f0, .int .i64 x10_2.f1, .bool x10_2.f2, .bool x10_2.f3]), (71, .int .i64 z17.2), (70, .vec (x3_2).length 4 ((x3_2).flatMap e37)), (0, .vec (a0).length 1 ((a0).flatMap e4)), (1, .vec (a1).length 1 ((a1).flatMap e4)), (5, .str y16_0), (7, .vec (x2_1.1).length 3 ((x2_1.1).flatMap e47)), (9, .vec (x3_2).length 4 ((x3_2).flatMap e37)), (10, .int .i64 z17.2), (11, .str z17.1)]) (congrArg (fun z : Bool => ([(96, .bool z), (95, .bool z), (94, .bool z), (93, .bool (decide (0 < z17.2))), (92, .bool (decide (0 < z17.2))), (91, .int .i64 z17.2), (90, .bool true), (89, .bool true), (88, .vptr [.bool x10_18]), (87, .int .i64 z17.2), (86, .vec (a1).length 1 ((a1).flatMap e4)), (85, .bool x10_13.f3), (84, .vptr [.bool x10_13.f3]), (83, .vptr [.int .i64 x10_13.f0, .int .i64 x10_13.f1, .bool x10_13.f2, .bool x10_13.f3]), (82, .int .i64 z17.2), (81, .vec (x3_2).length 4 ((x3_2).flatMap e37)), (80, .bool false), (79, .bool false), (78, .bool x10_7), (77, .vptr [.bool x10_7]), (76, .int .i64 z17.2), (75, .vec (a0).length 1 ((a0).flatMap e4)), (74, .bool x10_2.f2), (73, .vptr [.bool x10_2.f2, .bool x10_2.f3]), (72, .vptr [.int .i64 x10_2.f0, .int .i64 x10_2.f1, .bool x10_2.f2, .bool x10_2.f3]), (71, .int .i64 z17.2), (70, .vec (x3_2).length 4 ((x3_2).flatMap e37)), (0, .vec (a0).length 1 ((a0).flatMap e4)), (1, .vec (a1).length 1 ((a1).flatMap e4)), (5, .str y16_0), (7, .vec (x2_1.1).length 3 ((x2_1.1).flatMap e47)), (9, .vec (x3_2).length 4 ((x3_2).flatMap e37)), (10, .int .i64 z17.2), (11, .str z17.1)] : Env)) hb15) (opsD_run 4 (l' := (opsAt g9p32).toList.drop 31) (eE := E30) (H' := (mkH [])) (hs := []) (by kernel_rfl) (opsD_chk (l' := (opsAt g9p32).toList.drop 32) (eE := ((101, .vptr [.int .i64 x10_31.f0, .int .i64 x10_31.f1, .bool x10_31.f2, .bool x10_31.f3]) :: E30)) (hs := []) (x := x10_31) (fun (x10_31 : S36) => (.vptr [.int .i64 x10_31.f0, .int .i64 x10_31.f1, .bool x10_31.f2, .bool x10_31.f3], (mkH []))) (vidxH (sz := 4) e37_len (by kernel_rfl)) hx10_31 (by kernel_rfl) (opsD_run 1 (l' := (opsAt g9p32).toList.drop 33) (eE := ((102, .agg [.int .i64 x10_31.f0, .int .i64 x10_31.f1, .bool x10_31.f2, .bool x10_31.f3]) :: (101, .vptr [.int .i64 x10_31.f0, .int .i64 x10_31.f1, .bool x10_31.f2, .bool x10_31.f3]) :: E30)) (H' := (mkH [])) (hs := []) (by kernel_rfl) (opsD_call (l' := (opsAt g9p32).toList.drop 34) (eE := ((103, .str x10_33) :: (102, .agg [.int .i64 x10_31.f0, .int .i64 x10_31.f1, .bool x10_31.f2, .bool x10_31.f3]) :: (101, .vptr [.int .i64 x10_31.f0, .int .i64 x10_31.f1, .bool x10_31.f2, .bool x10_31.f3]) :: E30)) (hs := [(mkH [])]) (fi := 32) (args := [.str y16_0, .vec (x2_1.1).length 3 ((x2_1.1).flatMap e47), .agg [.int .i64 x10_31.f0, .int .i64 x10_31.f1, .bool x10_31.f2, .bool x10_31.f3]]) (v := .str x10_33) (by kernel_rfl) (by kernel_rfl) (by kernel_rfl) (g32_ok k y16_0 x2_1.1 (⟨x10_31.f0, x10_31.f1, x10_31.f2, x10_31.f3⟩ : S36) x10_33 hx10_33) (by kernel_rfl) (opsD_run 3 (l' := (opsAt g9p32).toList.drop 37) (eE := E31) (H' := (mkH [])) (hs := []) (by kernel_rfl) (.nil)))))))))))))))))))) (by kernel_rfl) (by kernel_rfl) (by kernel_rfl) ?_
        refine oK [0, 1, 5, 7, 9, 10, 106] (eE := [(0, .vec (a0).length 1 ((a0).flatMap e4)), (1, .vec (a1).length 1 ((a1).flatMap e4)), (5, .str y16_0), (7, .vec (x2_1.1).length 3 ((x2_1.1).flatMap e47)), (9, .vec (x3_2).length 4 ((x3_2).flatMap e37)), (10, .int .i64 z17.2), (106, .bool (!(eqL x10_33 z17.1)))]) (by kernel_rfl) ?_
        exact hj18 (!(eqL x10_33 z17.1), z17.2)
      ·refine ok_if (fun hb15 => ?_) (fun hb15 => ?_)
       ·let E23 : Env := [(71, .int .i64 z17.2), (70, .vec (x3_2).length 4 ((x3_2).flatMap e37)), (0, .vec (a0).length 1 ((a0).flatMap e4)), (1, .vec (a1).length 1 ((a1).flatMap e4)), (5, .str y16_0), (7, .vec (x2_1.1).length 3 ((x2_1.1).flatMap e47)), (9, .vec (x3_2).length 4 ((x3_2).flatMap e37)), (10, .int .i64 z17.2), (11, .str z17.1)]
        let E24 : Env := ((76, .int .i64 z17.2) :: (75, .vec (a0).length 1 ((a0).flatMap e4)) :: (74, .bool x10_2.f2) :: (73, .vptr [.bool x10_2.f2, .bool x10_2.f3]) :: (72, .vptr [.int .i64 x10_2.f0, .int .i64 x10_2.f1, .bool x10_2.f2, .bool x10_2.f3]) :: E23)
        let E26 : Env := ((82, .int .i64 z17.2) :: (81, .vec (x3_2).length 4 ((x3_2).flatMap e37)) :: (80, .bool false) :: (79, .bool false) :: (78, .bool x10_7) :: (77, .vptr [.bool x10_7]) :: E24)
        let E27 : Env := ((87, .int .i64 z17.2) :: (86, .vec (a1).length 1 ((a1).flatMap e4)) :: (85, .bool x10_13.f3) :: (84, .vptr [.bool x10_13.f3]) :: (83, .vptr [.int .i64 x10_13.f0, .int .i64 x10_13.f1, .bool x10_13.f2, .bool x10_13.f3]) :: E26)
        let E32 : Env := ((96, .bool (!(x10_13.f3 == false))) :: (95, .bool (!(x10_13.f3 == false))) :: (94, .bool (!(x10_13.f3 == false))) :: (93, .bool false) :: (92, .tuple []) :: (91, .tuple []) :: (90, .bool false) :: (89, .bool false) :: (88, .vptr [.bool x10_18]) :: E27)
        let E33 : Env := [(106, .bool true), (105, .tuple []), (104, .tuple []), (103, .tuple []), (102, .tuple []), (101, .tuple []), (100, .tuple []), (99, .tuple []), (98, .tuple []), (97, .tuple []), (96, .bool true), (95, .bool true), (94, .bool true), (93, .bool false), (92, .tuple []), (91, .tuple []), (90, .bool false), (89, .bool false), (88, .vptr [.bool x10_18]), (87, .int .i64 z17.2), (86, .vec (a1).length 1 ((a1).flatMap e4)), (85, .bool x10_13.f3), (84, .vptr [.bool x10_13.f3]), (83, .vptr [.int .i64 x10_13.f0, .int .i64 x10_13.f1, .bool x10_13.f2, .bool x10_13.f3]), (82, .int .i64 z17.2), (81, .vec (x3_2).length 4 ((x3_2).flatMap e37)), (80, .bool false), (79, .bool false), (78, .bool x10_7), (77, .vptr [.bool x10_7]), (76, .int .i64 z17.2), (75, .vec (a0).length 1 ((a0).flatMap e4)), (74, .bool x10_2.f2), (73, .vptr [.bool x10_2.f2, .bool x10_2.f3]), (72, .vptr [.int .i64 x10_2.f0, .int .i64 x10_2.f1, .bool x10_2.f2, .bool x10_2.f3]), (71, .int .i64 z17.2), (70, .vec (x3_2).length 4 ((x3_2).flatMap e37)), (0, .vec (a0).length 1 ((a0).flatMap e4)), (1, .vec (a1).length 1 ((a1).flatMap e4)), (5, .str y16_0), (7, .vec (x2_1.1).length 3 ((x2_1.1).flatMap e47)), (9, .vec (x3_2).length 4 ((x3_2).flatMap e37)), (10, .int .i64 z17.2), (11, .str z17.1)]
        refine ok_draw (p' := nav [0] g9p32) (eE := E33) (H' := (mkH [])) (hs := [(mkH [])]) [(0, 0, 0), (0, 0, 0), (3, 0, 0), (7, 0, 0), (15, 0, 0), (0, 0, 0), (0, 0, 0), (96, 0, 0), (224, 0, 0), (511, 0, 0), (1023, 0, 0), (2047, 0, 0), (2047, 0, 0), (8191, 0, 0), (16383, 0, 0), (32767, 0, 0), (2047, 0, 0), (2047, 0, 0), (198655, 0, 0), (460799, 0, 0), (985087, 0, 0), (2033663, 0, 0), (4130815, 0, 0), (8325119, 0, 0), (16777215, 0, 0), (33554431, 0, 0), (67108863, 0, 0), (134217727, 0, 0), (134217727, 0, 0), (134217727, 0, 0), (134217727, 0, 0), (1744830463, 0, 0), (3892314111, 0, 0), (8589934591, 0, 0), (134217727, 0, 0), (34359738367, 0, 0), (68719476735, 0, 0)] (by kernel_rfl) (by kernel_rfl) (by kernel_rfl) (opsD_run 2 (l' := (opsAt g9p32).toList.drop 2) (eE := E23) (H' := (mkH [])) (hs := []) (by kernel_rfl) (opsD_chk (l' := (opsAt g9p32).toList.drop 3) (eE := ((72, .vptr [.int .i64 x10_2.f0, .int .i64 x10_2.f1, .bool x10_2.f2, .bool x10_2.f3]) :: E23)) (hs := []) (x := x10_2) (fun (x10_2 : S36) => (.vptr [.int .i64 x10_2.f0, .int .i64 x10_2.f1, .bool x10_2.f2, .bool x10_2.f3], (mkH []))) (vidxH (sz := 4) e37_len (by kernel_rfl)) hx10_2 (by kernel_rfl) (opsD_run 4 (l' := (opsAt g9p32).toList.drop 7) (eE := E24) (H' := (mkH [])) (hs := []) (by kernel_rfl) (opsD_chk (l' := (opsAt g9p32).toList.drop 8) (eE := ((77, .vptr [.bool x10_7]) :: E24)) (hs := []) (x := x10_7) (fun (x10_7 : Bool) => (.vptr [.bool x10_7], (mkH []))) (vidxH (sz := 1) e4_len (by kernel_rfl)) hx10_7 (by kernel_rfl) (opsD_run 3 (l' := (opsAt g9p32).toList.drop 11) (eE := ((80, .bool (!(x10_2.f2 == x10_7))) :: (79, .bool (!(x10_2.f2 == x10_7))) :: (78, .bool x10_7) :: (77, .vptr [.bool x10_7]) :: E24)) (H' := (mkH [])) (hs := []) (by kernel_rfl) (opsD_env (eE := ((80, .bool false) :: (79, .bool false) :: (78, .bool x10_7) :: (77, .vptr [.bool x10_7]) :: E24)) (congrArg (fun z : Bool => (((80, .bool z) :: (79, .bool z) :: (78, .bool x10_7) :: (77, .vptr [.bool x10_7]) :: E24) : Env)) hb13) (opsD_run 2 (l' := (opsAt g9p32).toList.drop 13) (eE := E26) (H' := (mkH [])) (hs := []) (by kernel_rfl) (opsD_chk (l' := (opsAt g9p32).toList.drop 14) (eE := ((83, .vptr [.int .i64 x10_13.f0, .int .i64 x10_13.f1, .bool x10_13.f2, .bool x10_13.f3]) :: E26)) (hs := []) (x := x10_13) (fun (x10_13 : S36) => (.vptr [.int .i64 x10_13.f0, .int .i64 x10_13.f1, .bool x10_13.f2, .bool x10_13.f3], (mkH []))) (vidxH (sz := 4) e37_len (by kernel_rfl)) hx10_13 (by kernel_rfl) (opsD_run 4 (l' := (opsAt g9p32).toList.drop 18) (eE := E27) (H' := (mkH [])) (hs := []) (by kernel_rfl) (opsD_chk (l' := (opsAt g9p32).toList.drop 19) (eE := ((88, .vptr [.bool x10_18]) :: E27)) (hs := []) (x := x10_18) (fun (x10_18 : Bool) => (.vptr [.bool x10_18], (mkH []))) (vidxH (sz := 1) e4_len (by kernel_rfl)) hx10_18 (by kernel_rfl) (opsD_run 2 (l' := (opsAt g9p32).toList.drop 21) (eE := ((90, .bool x10_18) :: (89, .bool x10_18) :: (88, .vptr [.bool x10_18]) :: E27)) (H' := (mkH [])) (hs := []) (by kernel_rfl) (opsD_env (eE := ((90, .bool false) :: (89, .bool false) :: (88, .vptr [.bool x10_18]) :: E27)) (congrArg (fun z : Bool => (((90, .bool z) :: (89, .bool z) :: (88, .vptr [.bool x10_18]) :: E27) : Env)) hb14) (opsD_run 6 (l' := (opsAt g9p32).toList.drop 27) (eE := E32) (H' := (mkH [])) (hs := []) (by kernel_rfl) (opsD_env (eE := [(96, .bool true), (95, .bool true), (94, .bool true), (93, .bool false), (92, .tuple []), (91, .tuple []), (90, .bool false), (89, .bool false), (88, .vptr [.bool x10_18]), (87, .int .i64 z17.2), (86, .vec (a1).length 1 ((a1).flatMap e4)), (85, .bool x10_13.f3), (84, .vptr [.bool x10_13.f3]), (83, .vptr [.int .i64 x10_13.f0, .int .i64 x10_13.f1, .bool x10_13.f2, .bool x10_13.f3]), (82, .int .i64 z17.2), (81, .vec (x3_2).length 4 ((x3_2).flatMap e37)), (80, .bool false), (79, .bool false), (78, .bool x10_7), (77, .vptr [.bool x10_7]), (76, .int .i64 z17.2), (75, .vec (a0).length 1 ((a0).flatMap e4)), (74, .bool x10_2.f2), (73, .vptr [.bool x10_2.f2, .bool x10_2.f3]), (72, .vptr [.int .i64 x10_2.f0, .int .i64 x10_2.f1, .bool x10_2.f2, .bool x10_2.f3]), (71, .int .i64 z17.2), (70, .vec (x3_2).length 4 ((x3_2).flatMap e37)), (0, .vec (a0).length 1 ((a0).flatMap e4)), (1, .vec (a1).length 1 ((a1).flatMap e4)), (5, .str y16_0), (7, .vec (x2_1.1).length 3 ((x2_1.1).flatMap e47)), (9, .vec (x3_2).length 4 ((x3_2).flatMap e37)), (10, .int .i64 z17.2), (11, .str z17.1)]) (congrArg (fun z : Bool => ([(96, .bool z), (95, .bool z), (94, .bool z), (93, .bool false), (92, .tuple []), (91, .tuple []), (90, .bool false), (89, .bool false), (88, .vptr [.bool x10_18]), (87, .int .i64 z17.2), (86, .vec (a1).length 1 ((a1).flatMap e4)), (85, .bool x10_13.f3), (84, .vptr [.bool x10_13.f3]), (83, .vptr [.int .i64 x10_13.f0, .int .i64 x10_13.f1, .bool x10_13.f2, .bool x10_13.f3]), (82, .int .i64 z17.2), (81, .vec (x3_2).length 4 ((x3_2).flatMap e37)), (80, .bool false), (79, .bool false), (78, .bool x10_7), (77, .vptr [.bool x10_7]), (76, .int .i64 z17.2), (75, .vec (a0).length 1 ((a0).flatMap e4)), (74, .bool x10_2.f2), (73, .vptr [.bool x10_2.f2, .bool x10_2.f3]), (72, .vptr [.int .i64 x10_2.f0, .int .i64 x10_2.f1, .bool x10_2.f2, .bool x10_2.f3]), (71, .int .i64 z17.2), (70, .vec (x3_2).length 4 ((x3_2).flatMap e37)), (0, .vec (a0).length 1 ((a0).flatMap e4)), (1, .vec (a1).length 1 ((a1).flatMap e4)), (5, .str y16_0), (7, .vec (x2_1.1).length 3 ((x2_1.1).flatMap e47)), (9, .vec (x3_2).length 4 ((x3_2).flatMap e37)), (10, .int .i64 z17.2), (11, .str z17.1)] : Env)) hb15) (opsD_run 10 (l' := (opsAt g9p32).toList.drop 37) (eE := E33) (H' := (mkH [])) (hs := [(mkH [])]) (by kernel_rfl) (.nil)))))))))))))))) (by kernel_rfl) (by kernel_rfl) (by kernel_rfl) ?_
        refine oK [0, 1, 5, 7, 9, 10, 106] (eE := [(0, .vec (a0).length 1 ((a0).flatMap e4)), (1, .vec (a1).length 1 ((a1).flatMap e4)), (5, .str y16_0), (7, .vec (x2_1.1).length 3 ((x2_1.1).flatMap e47)), (9, .vec (x3_2).length 4 ((x3_2).flatMap e37)), (10, .int .i64 z17.2), (106, .bool true)]) (by kernel_rfl) ?_
        exact hj18 (true, z17.2)
       ·refine ok_bind (fun x10_31 hx10_31 => ?_)
        refine ok_bind (fun x10_33 hx10_33 => ?_)
        let E23 : Env := [(71, .int .i64 z17.2), (70, .vec (x3_2).length 4 ((x3_2).flatMap e37)), (0, .vec (a0).length 1 ((a0).flatMap e4)), (1, .vec (a1).length 1 ((a1).flatMap e4)), (5, .str y16_0), (7, .vec (x2_1.1).length 3 ((x2_1.1).flatMap e47)), (9, .vec (x3_2).length 4 ((x3_2).flatMap e37)), (10, .int .i64 z17.2), (11, .str z17.1)]
        let E24 : Env := ((76, .int .i64 z17.2) :: (75, .vec (a0).length 1 ((a0).flatMap e4)) :: (74, .bool x10_2.f2) :: (73, .vptr [.bool x10_2.f2, .bool x10_2.f3]) :: (72, .vptr [.int .i64 x10_2.f0, .int .i64 x10_2.f1, .bool x10_2.f2, .bool x10_2.f3]) :: E23)
        let E26 : Env := ((82, .int .i64 z17.2) :: (81, .vec (x3_2).length 4 ((x3_2).flatMap e37)) :: (80, .bool false) :: (79, .bool false) :: (78, .bool x10_7) :: (77, .vptr [.bool x10_7]) :: E24)
        let E27 : Env := ((87, .int .i64 z17.2) :: (86, .vec (a1).length 1 ((a1).flatMap e4)) :: (85, .bool x10_13.f3) :: (84, .vptr [.bool x10_13.f3]) :: (83, .vptr [.int .i64 x10_13.f0, .int .i64 x10_13.f1, .bool x10_13.f2, .bool x10_13.f3]) :: E26)
        let E32 : Env := ((96, .bool (!(x10_13.f3 == false))) :: (95, .bool (!(x10_13.f3 == false))) :: (94, .bool (!(x10_13.f3 == false))) :: (93, .bool false) :: (92, .tuple []) :: (91, .tuple []) :: (90, .bool false) :: (89, .bool false) :: (88, .vptr [.bool x10_18]) :: E27)
        let E34 : Env := [(100, .int .i64 z17.2), (99, .vec (x3_2).length 4 ((x3_2).flatMap e37)), (98, .vec (x2_1.1).length 3 ((x2_1.1).flatMap e47)), (97, .str y16_0), (96, .bool false), (95, .bool false), (94, .bool false), (93, .bool false), (92, .tuple []), (91, .tuple []), (90, .bool false), (89, .bool false), (88, .vptr [.bool x10_18]), (87, .int .i64 z17.2), (86, .vec (a1).length 1 ((a1).flatMap e4)), (85, .bool x10_13.f3), (84, .vptr [.bool x10_13.f3]), (83, .vptr [.int .i64 x10_13.f0, .int .i64 x10_13.f1, .bool x10_13.f2, .bool x10_13.f3]), (82, .int .i64 z17.2), (81, .vec (x3_2).length 4 ((x3_2).flatMap e37)), (80, .bool false), (79, .bool false), (78, .bool x10_7), (77, .vptr [.bool x10_7]), (76, .int .i64 z17.2), (75, .vec (a0).length 1 ((a0).flatMap e4)), (74, .bool x10_2.f2), (73, .vptr [.bool x10_2.f2, .bool x10_2.f3]), (72, .vptr [.int .i64 x10_2.f0, .int .i64 x10_2.f1, .bool x10_2.f2, .bool x10_2.f3]), (71, .int .i64 z17.2), (70, .vec (x3_2).length 4 ((x3_2).flatMap e37)), (0, .vec (a0).length 1 ((a0).flatMap e4)), (1, .vec (a1).length 1 ((a1).flatMap e4)), (5, .str y16_0), (7, .vec (x2_1.1).length 3 ((x2_1.1).flatMap e47)), (9, .vec (x3_2).length 4 ((x3_2).flatMap e37)), (10, .int .i64 z17.2), (11, .str z17.1)]
        let E35 : Env := ((106, .bool (!(eqL x10_33 z17.1))) :: (105, .bool (!(eqL x10_33 z17.1))) :: (104, .str z17.1) :: (103, .str x10_33) :: (102, .agg [.int .i64 x10_31.f0, .int .i64 x10_31.f1, .bool x10_31.f2, .bool x10_31.f3]) :: (101, .vptr [.int .i64 x10_31.f0, .int .i64 x10_31.f1, .bool x10_31.f2, .bool x10_31.f3]) :: E34)
        refine ok_draw (p' := nav [0] g9p32) (eE := E35) (H' := (mkH [])) (hs := [(mkH [])]) [(0, 0, 0), (0, 0, 0), (3, 0, 0), (7, 0, 0), (15, 0, 0), (0, 0, 0), (0, 0, 0), (96, 0, 0), (224, 0, 0), (511, 0, 0), (1023, 0, 0), (2047, 0, 0), (2047, 0, 0), (8191, 0, 0), (16383, 0, 0), (32767, 0, 0), (2047, 0, 0), (2047, 0, 0), (198655, 0, 0), (460799, 0, 0), (985087, 0, 0), (2033663, 0, 0), (4130815, 0, 0), (8325119, 0, 0), (16777215, 0, 0), (33554431, 0, 0), (67108863, 0, 0), (134217727, 0, 0), (134217727, 0, 0), (134217727, 0, 0), (134217727, 0, 0), (1744830463, 0, 0), (3892314111, 0, 0), (8589934591, 0, 0), (134217727, 0, 0), (34359738367, 0, 0), (68719476735, 0, 0)] (by kernel_rfl) (by kernel_rfl) (by kernel_rfl) (opsD_run 2 (l' := (opsAt g9p32).toList.drop 2) (eE := E23) (H' := (mkH [])) (hs := []) (by kernel_rfl) (opsD_chk (l' := (opsAt g9p32).toList.drop 3) (eE := ((72, .vptr [.int .i64 x10_2.f0, .int .i64 x10_2.f1, .bool x10_2.f2, .bool x10_2.f3]) :: E23)) (hs := []) (x := x10_2) (fun (x10_2 : S36) => (.vptr [.int .i64 x10_2.f0, .int .i64 x10_2.f1, .bool x10_2.f2, .bool x10_2.f3], (mkH []))) (vidxH (sz := 4) e37_len (by kernel_rfl)) hx10_2 (by kernel_rfl) (opsD_run 4 (l' := (opsAt g9p32).toList.drop 7) (eE := E24) (H' := (mkH [])) (hs := []) (by kernel_rfl) (opsD_chk (l' := (opsAt g9p32).toList.drop 8) (eE := ((77, .vptr [.bool x10_7]) :: E24)) (hs := []) (x := x10_7) (fun (x10_7 : Bool) => (.vptr [.bool x10_7], (mkH []))) (vidxH (sz := 1) e4_len (by kernel_rfl)) hx10_7 (by kernel_rfl) (opsD_run 3 (l' := (opsAt g9p32).toList.drop 11) (eE := ((80, .bool (!(x10_2.f2 == x10_7))) :: (79, .bool (!(x10_2.f2 == x10_7))) :: (78, .bool x10_7) :: (77, .vptr [.bool x10_7]) :: E24)) (H' := (mkH [])) (hs := []) (by kernel_rfl) (opsD_env (eE := ((80, .bool false) :: (79, .bool false) :: (78, .bool x10_7) :: (77, .vptr [.bool x10_7]) :: E24)) (congrArg (fun z : Bool => (((80, .bool z) :: (79, .bool z) :: (78, .bool x10_7) :: (77, .vptr [.bool x10_7]) :: E24) : Env)) hb13) (opsD_run 2 (l' := (opsAt g9p32).toList.drop 13) (eE := E26) (H' := (mkH [])) (hs := []) (by kernel_rfl) (opsD_chk (l' := (opsAt g9p32).toList.drop 14) (eE := ((83, .vptr [.int .i64 x10_13.f0, .int .i64 x10_13.f1, .bool x10_13.f2, .bool x10_13.f3]) :: E26)) (hs := []) (x := x10_13) (fun (x10_13 : S36) => (.vptr [.int .i64 x10_13.f0, .int .i64 x10_13.f1, .bool x10_13.f2, .bool x10_13.f3], (mkH []))) (vidxH (sz := 4) e37_len (by kernel_rfl)) hx10_13 (by kernel_rfl) (opsD_run 4 (l' := (opsAt g9p32).toList.drop 18) (eE := E27) (H' := (mkH [])) (hs := []) (by kernel_rfl) (opsD_chk (l' := (opsAt g9p32).toList.drop 19) (eE := ((88, .vptr [.bool x10_18]) :: E27)) (hs := []) (x := x10_18) (fun (x10_18 : Bool) => (.vptr [.bool x10_18], (mkH []))) (vidxH (sz := 1) e4_len (by kernel_rfl)) hx10_18 (by kernel_rfl) (opsD_run 2 (l' := (opsAt g9p32).toList.drop 21) (eE := ((90, .bool x10_18) :: (89, .bool x10_18) :: (88, .vptr [.bool x10_18]) :: E27)) (H' := (mkH [])) (hs := []) (by kernel_rfl) (opsD_env (eE := ((90, .bool false) :: (89, .bool false) :: (88, .vptr [.bool x10_18]) :: E27)) (congrArg (fun z : Bool => (((90, .bool z) :: (89, .bool z) :: (88, .vptr [.bool x10_18]) :: E27) : Env)) hb14) (opsD_run 6 (l' := (opsAt g9p32).toList.drop 27) (eE := E32) (H' := (mkH [])) (hs := []) (by kernel_rfl) (opsD_env (eE := [(96, .bool false), (95, .bool false), (94, .bool false), (93, .bool false), (92, .tuple []), (91, .tuple []), (90, .bool false), (89, .bool false), (88, .vptr [.bool x10_18]), (87, .int .i64 z17.2), (86, .vec (a1).length 1 ((a1).flatMap e4)), (85, .bool x10_13.f3), (84, .vptr [.bool x10_13.f3]), (83, .vptr [.int .i64 x10_13.f0, .int .i64 x10_13.f1, .bool x10_13.f2, .bool x10_13.f3]), (82, .int .i64 z17.2), (81, .vec (x3_2).length 4 ((x3_2).flatMap e37)), (80, .bool false), (79, .bool false), (78, .bool x10_7), (77, .vptr [.bool x10_7]), (76, .int .i64 z17.2), (75, .vec (a0).length 1 ((a0).flatMap e4)), (74, .bool x10_2.f2), (73, .vptr [.bool x10_2.f2, .bool x10_2.f3]), (72, .vptr [.int .i64 x10_2.f0, .int .i64 x10_2.f1, .bool x10_2.f2, .bool x10_2.f3]), (71, .int .i64 z17.2), (70, .vec (x3_2).length 4 ((x3_2).flatMap e37)), (0, .vec (a0).length 1 ((a0).flatMap e4)), (1, .vec (a1).length 1 ((a1).flatMap e4)), (5, .str y16_0), (7, .vec (x2_1.1).length 3 ((x2_1.1).flatMap e47)), (9, .vec (x3_2).length 4 ((x3_2).flatMap e37)), (10, .int .i64 z17.2), (11, .str z17.1)]) (congrArg (fun z : Bool => ([(96, .bool z), (95, .bool z), (94, .bool z), (93, .bool false), (92, .tuple []), (91, .tuple []), (90, .bool false), (89, .bool false), (88, .vptr [.bool x10_18]), (87, .int .i64 z17.2), (86, .vec (a1).length 1 ((a1).flatMap e4)), (85, .bool x10_13.f3), (84, .vptr [.bool x10_13.f3]), (83, .vptr [.int .i64 x10_13.f0, .int .i64 x10_13.f1, .bool x10_13.f2, .bool x10_13.f3]), (82, .int .i64 z17.2), (81, .vec (x3_2).length 4 ((x3_2).flatMap e37)), (80, .bool false), (79, .bool false), (78, .bool x10_7), (77, .vptr [.bool x10_7]), (76, .int .i64 z17.2), (75, .vec (a0).length 1 ((a0).flatMap e4)), (74, .bool x10_2.f2), (73, .vptr [.bool x10_2.f2, .bool x10_2.f3]), (72, .vptr [.int .i64 x10_2.f0, .int .i64 x10_2.f1, .bool x10_2.f2, .bool x10_2.f3]), (71, .int .i64 z17.2), (70, .vec (x3_2).length 4 ((x3_2).flatMap e37)), (0, .vec (a0).length 1 ((a0).flatMap e4)), (1, .vec (a1).length 1 ((a1).flatMap e4)), (5, .str y16_0), (7, .vec (x2_1.1).length 3 ((x2_1.1).flatMap e47)), (9, .vec (x3_2).length 4 ((x3_2).flatMap e37)), (10, .int .i64 z17.2), (11, .str z17.1)] : Env)) hb15) (opsD_run 4 (l' := (opsAt g9p32).toList.drop 31) (eE := E34) (H' := (mkH [])) (hs := []) (by kernel_rfl) (opsD_chk (l' := (opsAt g9p32).toList.drop 32) (eE := ((101, .vptr [.int .i64 x10_31.f0, .int .i64 x10_31.f1, .bool x10_31.f2, .bool x10_31.f3]) :: E34)) (hs := []) (x := x10_31) (fun (x10_31 : S36) => (.vptr [.int .i64 x10_31.f0, .int .i64 x10_31.f1, .bool x10_31.f2, .bool x10_31.f3], (mkH []))) (vidxH (sz := 4) e37_len (by kernel_rfl)) hx10_31 (by kernel_rfl) (opsD_run 1 (l' := (opsAt g9p32).toList.drop 33) (eE := ((102, .agg [.int .i64 x10_31.f0, .int .i64 x10_31.f1, .bool x10_31.f2, .bool x10_31.f3]) :: (101, .vptr [.int .i64 x10_31.f0, .int .i64 x10_31.f1, .bool x10_31.f2, .bool x10_31.f3]) :: E34)) (H' := (mkH [])) (hs := []) (by kernel_rfl) (opsD_call (l' := (opsAt g9p32).toList.drop 34) (eE := ((103, .str x10_33) :: (102, .agg [.int .i64 x10_31.f0, .int .i64 x10_31.f1, .bool x10_31.f2, .bool x10_31.f3]) :: (101, .vptr [.int .i64 x10_31.f0, .int .i64 x10_31.f1, .bool x10_31.f2, .bool x10_31.f3]) :: E34)) (hs := [(mkH [])]) (fi := 32) (args := [.str y16_0, .vec (x2_1.1).length 3 ((x2_1.1).flatMap e47), .agg [.int .i64 x10_31.f0, .int .i64 x10_31.f1, .bool x10_31.f2, .bool x10_31.f3]]) (v := .str x10_33) (by kernel_rfl) (by kernel_rfl) (by kernel_rfl) (g32_ok k y16_0 x2_1.1 (⟨x10_31.f0, x10_31.f1, x10_31.f2, x10_31.f3⟩ : S36) x10_33 hx10_33) (by kernel_rfl) (opsD_run 3 (l' := (opsAt g9p32).toList.drop 37) (eE := E35) (H' := (mkH [])) (hs := []) (by kernel_rfl) (.nil)))))))))))))))))))) (by kernel_rfl) (by kernel_rfl) (by kernel_rfl) ?_
        refine oK [0, 1, 5, 7, 9, 10, 106] (eE := [(0, .vec (a0).length 1 ((a0).flatMap e4)), (1, .vec (a1).length 1 ((a1).flatMap e4)), (5, .str y16_0), (7, .vec (x2_1.1).length 3 ((x2_1.1).flatMap e47)), (9, .vec (x3_2).length 4 ((x3_2).flatMap e37)), (10, .int .i64 z17.2), (106, .bool (!(eqL x10_33 z17.1)))]) (by kernel_rfl) ?_
        exact hj18 (!(eqL x10_33 z17.1), z17.2)
   ·refine oS 69 (b := x8_2) (by kernel_rfl) (fun hb => ?_) (fun hb => ?_)
    ·let E36 : Env := [(11, .str [37, 32, 99]), (69, .bool true), (0, .vec (a0).length 1 ((a0).flatMap e4)), (1, .vec (a1).length 1 ((a1).flatMap e4)), (5, .str y16_0), (7, .vec (x2_1.1).length 3 ((x2_1.1).flatMap e47)), (9, .vec (x3_2).length 4 ((x3_2).flatMap e37)), (10, .int .i64 y16_1), (11, .str g9c1), (69, .bool x8_2)]
     refine oR 5 (p' := g9p32) (eE := E36) (H' := (mkH [])) (by kernel_rfl) ?_
     refine oK [0, 1, 5, 7, 9, 10, 11] (eE := [(0, .vec (a0).length 1 ((a0).flatMap e4)), (1, .vec (a1).length 1 ((a1).flatMap e4)), (5, .str y16_0), (7, .vec (x2_1.1).length 3 ((x2_1.1).flatMap e47)), (9, .vec (x3_2).length 4 ((x3_2).flatMap e37)), (10, .int .i64 y16_1), (11, .str [37, 32, 99])]) (by kernel_rfl) ?_
     exact hj17 (([37, 32, 99] : List Nat), y16_1)
    ·let E37 : Env := [(69, .bool false), (0, .vec (a0).length 1 ((a0).flatMap e4)), (1, .vec (a1).length 1 ((a1).flatMap e4)), (5, .str y16_0), (7, .vec (x2_1.1).length 3 ((x2_1.1).flatMap e47)), (9, .vec (x3_2).length 4 ((x3_2).flatMap e37)), (10, .int .i64 y16_1), (11, .str g9c1), (69, .bool x8_2)]
     refine oR 3 (p' := g9p32) (eE := E37) (H' := (mkH [])) (by kernel_rfl) ?_
     refine oK [0, 1, 5, 7, 9, 10, 11] (eE := [(0, .vec (a0).length 1 ((a0).flatMap e4)), (1, .vec (a1).length 1 ((a1).flatMap e4)), (5, .str y16_0), (7, .vec (x2_1.1).length 3 ((x2_1.1).flatMap e47)), (9, .vec (x3_2).length 4 ((x3_2).flatMap e37)), (10, .int .i64 y16_1), (11, .str g9c1)]) (by kernel_rfl) ?_
     exact hj17 ((g9c1 : List Nat), y16_1)
  ·refine oR 4 (p' := (atN 0 (ctl1 g9p28))) (eE := ((63, .bool false) :: E17)) (H' := (mkH [])) (by kernel_rfl) ?_
   refine oC (fun (x9_0 : Bool) => .bool x9_0) (atN 1 (ctl1 g9p28)) (fun x9_0 => ((107, .bool x9_0) :: (63, .bool false) :: E17)) (fi := 27) (args := []) (by kernel_rfl) (by kernel_rfl) (fun _ => by kernel_rfl) (fun r h => g27_ok k  r h) (fun _ => by kernel_rfl) (fun x9_0 hx9_0 => ?_)
   refine oR 3 (p' := .fin) (eE := ((4, .bool x9_0) :: (107, .bool x9_0) :: (63, .bool false) :: E17)) (H' := (mkH [])) (by kernel_rfl) ?_
   exact oT (r := x9_0) (xs := [.bool x9_0]) (v := .bool x9_0) (by kernel_rfl) (by kernel_rfl) (by kernel_rfl) (.pures (by kernel_rfl)) (by kernel_rfl)
def g9_l12 (k : Nat)  (a0 : (List Bool)) (a1 : (List Bool)) (n : Nat) : (List Nat) → Int → Option Bool :=
 Nat.rec (motive := fun _ => (List Nat) → Int → Option Bool) (fun _ _ => none) (fun _ ih => fun (y12_0 : (List Nat)) (y12_1 : Int) => if (decide (y12_1 < (a0.length : Int))) then ((nthL a1 y12_1).bind fun x1_2 => jn (fun (z13 : (List Nat) × Int) => (nthL a0 z13.2).bind fun x4_2 => jn (fun (z15 : (List Nat) × Int) => ih z15.1 (fW .i64 (z15.2 + 1))) (fun j15 => if x4_2 then ((catS z13.1 ([37, 32, 99, 10] : List Nat)).bind fun x5_1 => j15 (x5_1, z13.2)) else ((catS z13.1 g9c0).bind fun x6_1 => j15 (x6_1, z13.2)))) (fun j13 => if x1_2 then ((catS y12_0 ([10, 10] : List Nat)).bind fun x7_1 => j13 (x7_1, y12_1)) else (j13 (y12_0, y12_1)))) else ((g28 k y12_0).bind fun x2_1 => (g29 k y12_0 x2_1.1).bind fun x3_2 => jn (fun (z14 : Bool × (List Nat)) => if z14.1 then (some false) else (g9_l16 k a0 a1 x2_1 x3_2 k z14.2 0)) (fun j14 => if (!decide (x2_1.2 = 0)) then (j14 (true, y12_0)) else (j14 (!decide ((x3_2.length : Int) = (a0.length : Int)), y12_0))))) n
theorem g9_l12_s (k : Nat)  (a0 : (List Bool)) (a1 : (List Bool)) (n : Nat) (y12_0 : (List Nat)) (y12_1 : Int) : g9_l12 k a0 a1 (n + 1) y12_0 y12_1 = (if (decide (y12_1 < (a0.length : Int))) then ((nthL a1 y12_1).bind fun x1_2 => jn (fun (z13 : (List Nat) × Int) => (nthL a0 z13.2).bind fun x4_2 => jn (fun (z15 : (List Nat) × Int) => (g9_l12 k a0 a1 n) z15.1 (fW .i64 (z15.2 + 1))) (fun j15 => if x4_2 then ((catS z13.1 ([37, 32, 99, 10] : List Nat)).bind fun x5_1 => j15 (x5_1, z13.2)) else ((catS z13.1 g9c0).bind fun x6_1 => j15 (x6_1, z13.2)))) (fun j13 => if x1_2 then ((catS y12_0 ([10, 10] : List Nat)).bind fun x7_1 => j13 (x7_1, y12_1)) else (j13 (y12_0, y12_1)))) else ((g28 k y12_0).bind fun x2_1 => (g29 k y12_0 x2_1.1).bind fun x3_2 => jn (fun (z14 : Bool × (List Nat)) => if z14.1 then (some false) else (g9_l16 k a0 a1 x2_1 x3_2 k z14.2 0)) (fun j14 => if (!decide (x2_1.2 = 0)) then (j14 (true, y12_0)) else (j14 (!decide ((x3_2.length : Int) = (a0.length : Int)), y12_0))))) := rfl
theorem g9_l12_ok (k : Nat)  (a0 : (List Bool)) (a1 : (List Bool))  : ∀ (n : Nat) (y12_0 : (List Nat)) (y12_1 : Int), Ok X9 g9p7 [(0, .vec (a0).length 1 ((a0).flatMap e4)), (1, .vec (a1).length 1 ((a1).flatMap e4)), (5, .str y12_0), (6, .int .i64 y12_1)] (mkH []) (g9_l12 k a0 a1 n y12_0 y12_1)
 | 0, _, _ => ok_none
 | n + 1, y12_0, y12_1 => by
  have ih := g9_l12_ok k a0 a1 n
  rw [g9_l12_s]
  refine ok_ent (p' := nav [0] g9p7) (by kernel_rfl) ?_
  let E4 : Env := [(26, .bool (decide (y12_1 < (a0.length : Int)))), (25, .int .i64 (a0.length : Int)), (24, .vec (a0).length 1 ((a0).flatMap e4)), (23, .int .i64 y12_1), (0, .vec (a0).length 1 ((a0).flatMap e4)), (1, .vec (a1).length 1 ((a1).flatMap e4)), (5, .str y12_0), (6, .int .i64 y12_1)]
  refine oR 8 (p' := g9p9) (eE := E4) (H' := (mkH [])) (by kernel_rfl) ?_
  refine oS 26 (b := decide (y12_1 < (a0.length : Int))) (by kernel_rfl) (fun hb => ?_) (fun hb => ?_)
  ·refine oR 9 (p' := (atN 2 (ctl1 g9p10))) (eE := ((30, .int .i64 y12_1) :: (29, .vec (a1).length 1 ((a1).flatMap e4)) :: (26, .bool true) :: E4)) (H' := (mkH [])) (by kernel_rfl) ?_
   refine oH (fun (x1_2 : Bool) => (.vptr [.bool x1_2], (mkH []))) (atN 3 (ctl1 g9p10)) (fun x1_2 => ((31, .vptr [.bool x1_2]) :: (30, .int .i64 y12_1) :: (29, .vec (a1).length 1 ((a1).flatMap e4)) :: (26, .bool true) :: E4)) (vidxH (sz := 1) e4_len (by kernel_rfl)) (fun _ => by kernel_rfl) (fun x1_2 hx1_2 => ?_)
   let E5 : Env := ((32, .bool x1_2) :: (31, .vptr [.bool x1_2]) :: (30, .int .i64 y12_1) :: (29, .vec (a1).length 1 ((a1).flatMap e4)) :: (26, .bool true) :: E4)
   refine oR 2 (p' := g9p12) (eE := E5) (H' := (mkH [])) (by kernel_rfl) ?_
   refine oK [0, 1, 5, 6, 32] (eE := [(0, .vec (a0).length 1 ((a0).flatMap e4)), (1, .vec (a1).length 1 ((a1).flatMap e4)), (5, .str y12_0), (6, .int .i64 y12_1), (32, .bool x1_2)]) (by kernel_rfl) ?_
   refine oJ (f := fun (z13 : (List Nat) × Int) => (nthL a0 z13.2).bind fun x4_2 => jn (fun (z15 : (List Nat) × Int) => (g9_l12 k a0 a1 n) z15.1 (fW .i64 (z15.2 + 1))) (fun j15 => if x4_2 then ((catS z13.1 ([37, 32, 99, 10] : List Nat)).bind fun x5_1 => j15 (x5_1, z13.2)) else ((catS z13.1 g9c0).bind fun x6_1 => j15 (x6_1, z13.2)))) g9p15 (fun (z13 : (List Nat) × Int) => [(0, .vec (a0).length 1 ((a0).flatMap e4)), (1, .vec (a1).length 1 ((a1).flatMap e4)), (5, .str z13.1), (6, .int .i64 z13.2)]) (fun (z13 : (List Nat) × Int) => (mkH [])) (fun z13 => ?_) (fun j13 hj13 => ?_)
   ·let E6 : Env := [(36, .int .i64 z13.2), (35, .vec (a0).length 1 ((a0).flatMap e4)), (0, .vec (a0).length 1 ((a0).flatMap e4)), (1, .vec (a1).length 1 ((a1).flatMap e4)), (5, .str z13.1), (6, .int .i64 z13.2)]
    refine oR 3 (p' := (atN 2 (ctl1 g9p15))) (eE := E6) (H' := (mkH [])) (by kernel_rfl) ?_
    refine oH (fun (x4_2 : Bool) => (.vptr [.bool x4_2], (mkH []))) (atN 3 (ctl1 g9p15)) (fun x4_2 => ((37, .vptr [.bool x4_2]) :: E6)) (vidxH (sz := 1) e4_len (by kernel_rfl)) (fun _ => by kernel_rfl) (fun x4_2 hx4_2 => ?_)
    refine oR 2 (p' := g9p17) (eE := ((38, .bool x4_2) :: (37, .vptr [.bool x4_2]) :: E6)) (H' := (mkH [])) (by kernel_rfl) ?_
    refine oJ (f := fun (z15 : (List Nat) × Int) => (g9_l12 k a0 a1 n) z15.1 (fW .i64 (z15.2 + 1))) g9p23 (fun (z15 : (List Nat) × Int) => [(0, .vec (a0).length 1 ((a0).flatMap e4)), (1, .vec (a1).length 1 ((a1).flatMap e4)), (5, .str z15.1), (6, .int .i64 z15.2)]) (fun (z15 : (List Nat) × Int) => (mkH [])) (fun z15 => ?_) (fun j15 hj15 => ?_)
    ·let E7 : Env := [(6, .int .i64 (fW .i64 (z15.2 + 1))), (28, .int .i64 (fW .i64 (z15.2 + 1))), (27, .int .i64 z15.2), (0, .vec (a0).length 1 ((a0).flatMap e4)), (1, .vec (a1).length 1 ((a1).flatMap e4)), (5, .str z15.1), (6, .int .i64 z15.2)]
     refine oR 5 (p' := g9p7) (eE := E7) (H' := (mkH [])) (by kernel_rfl) ?_
     refine oK [0, 1, 5, 6] (eE := [(0, .vec (a0).length 1 ((a0).flatMap e4)), (1, .vec (a1).length 1 ((a1).flatMap e4)), (5, .str z15.1), (6, .int .i64 (fW .i64 (z15.2 + 1)))]) (by kernel_rfl) ?_
     exact ih z15.1 (fW .i64 (z15.2 + 1))
    ·refine oS 38 (b := x4_2) (by kernel_rfl) (fun hb => ?_) (fun hb => ?_)
     ·refine oR 3 (p' := (atN 1 (ctl1 g9p19))) (eE := ((39, .str z13.1) :: (38, .bool true) :: (38, .bool x4_2) :: (37, .vptr [.bool x4_2]) :: E6)) (H' := (mkH [])) (by kernel_rfl) ?_
      refine oH (fun (x5_1 : (List Nat)) => (.str x5_1, (mkH []))) (atN 2 (ctl1 g9p19)) (fun x5_1 => ((40, .str x5_1) :: (39, .str z13.1) :: (38, .bool true) :: (38, .bool x4_2) :: (37, .vptr [.bool x4_2]) :: E6)) (catH (by kernel_rfl)) (fun _ => by kernel_rfl) (fun x5_1 hx5_1 => ?_)
      let E8 : Env := ((5, .str x5_1) :: (40, .str x5_1) :: (39, .str z13.1) :: (38, .bool true) :: (38, .bool x4_2) :: (37, .vptr [.bool x4_2]) :: E6)
      refine oR 2 (p' := g9p23) (eE := E8) (H' := (mkH [])) (by kernel_rfl) ?_
      refine oK [0, 1, 5, 6] (eE := [(0, .vec (a0).length 1 ((a0).flatMap e4)), (1, .vec (a1).length 1 ((a1).flatMap e4)), (5, .str x5_1), (6, .int .i64 z13.2)]) (by kernel_rfl) ?_
      exact hj15 (x5_1, z13.2)
     ·refine oR 3 (p' := (atN 1 (ctl1 g9p20))) (eE := ((41, .str z13.1) :: (38, .bool false) :: (38, .bool x4_2) :: (37, .vptr [.bool x4_2]) :: E6)) (H' := (mkH [])) (by kernel_rfl) ?_
      refine oH (fun (x6_1 : (List Nat)) => (.str x6_1, (mkH []))) (atN 2 (ctl1 g9p20)) (fun x6_1 => ((42, .str x6_1) :: (41, .str z13.1) :: (38, .bool false) :: (38, .bool x4_2) :: (37, .vptr [.bool x4_2]) :: E6)) (catH (by kernel_rfl)) (fun _ => by kernel_rfl) (fun x6_1 hx6_1 => ?_)
      let E9 : Env := ((5, .str x6_1) :: (42, .str x6_1) :: (41, .str z13.1) :: (38, .bool false) :: (38, .bool x4_2) :: (37, .vptr [.bool x4_2]) :: E6)
      refine oR 2 (p' := g9p23) (eE := E9) (H' := (mkH [])) (by kernel_rfl) ?_
      refine oK [0, 1, 5, 6] (eE := [(0, .vec (a0).length 1 ((a0).flatMap e4)), (1, .vec (a1).length 1 ((a1).flatMap e4)), (5, .str x6_1), (6, .int .i64 z13.2)]) (by kernel_rfl) ?_
      exact hj15 (x6_1, z13.2)
   ·refine oS 32 (b := x1_2) (by kernel_rfl) (fun hb => ?_) (fun hb => ?_)
    ·let E10 : Env := [(33, .str y12_0), (32, .bool true), (0, .vec (a0).length 1 ((a0).flatMap e4)), (1, .vec (a1).length 1 ((a1).flatMap e4)), (5, .str y12_0), (6, .int .i64 y12_1), (32, .bool x1_2)]
     refine oR 3 (p' := (atN 1 (ctl1 g9p14))) (eE := E10) (H' := (mkH [])) (by kernel_rfl) ?_
     refine oH (fun (x7_1 : (List Nat)) => (.str x7_1, (mkH []))) (atN 2 (ctl1 g9p14)) (fun x7_1 => ((34, .str x7_1) :: E10)) (catH (by kernel_rfl)) (fun _ => by kernel_rfl) (fun x7_1 hx7_1 => ?_)
     refine oR 3 (p' := g9p15) (eE := ((5, .str x7_1) :: (34, .str x7_1) :: E10)) (H' := (mkH [])) (by kernel_rfl) ?_
     refine oK [0, 1, 5, 6] (eE := [(0, .vec (a0).length 1 ((a0).flatMap e4)), (1, .vec (a1).length 1 ((a1).flatMap e4)), (5, .str x7_1), (6, .int .i64 y12_1)]) (by kernel_rfl) ?_
     exact hj13 (x7_1, y12_1)
    ·let E11 : Env := [(32, .bool false), (0, .vec (a0).length 1 ((a0).flatMap e4)), (1, .vec (a1).length 1 ((a1).flatMap e4)), (5, .str y12_0), (6, .int .i64 y12_1), (32, .bool x1_2)]
     refine oR 3 (p' := g9p15) (eE := E11) (H' := (mkH [])) (by kernel_rfl) ?_
     refine oK [0, 1, 5, 6] (eE := [(0, .vec (a0).length 1 ((a0).flatMap e4)), (1, .vec (a1).length 1 ((a1).flatMap e4)), (5, .str y12_0), (6, .int .i64 y12_1)]) (by kernel_rfl) ?_
     exact hj13 (y12_0, y12_1)
  ·refine oR 5 (p' := (atN 1 (ctl1 g9p11))) (eE := ((44, .str y12_0) :: (26, .bool false) :: E4)) (H' := (mkH [])) (by kernel_rfl) ?_
   refine oC (fun (x2_1 : ((List S46) × Int)) => .tuple [.vec (x2_1.1).length 3 ((x2_1.1).flatMap e47), .int .i64 x2_1.2]) (atN 2 (ctl1 g9p11)) (fun x2_1 => ((45, .tuple [.vec (x2_1.1).length 3 ((x2_1.1).flatMap e47), .int .i64 x2_1.2]) :: (44, .str y12_0) :: (26, .bool false) :: E4)) (fi := 28) (args := [.str y12_0]) (by kernel_rfl) (by kernel_rfl) (fun _ => by kernel_rfl) (fun r h => g28_ok k y12_0 r h) (fun _ => by kernel_rfl) (fun x2_1 hx2_1 => ?_)
   let E12 : Env := ((8, .int .i64 x2_1.2) :: (7, .vec (x2_1.1).length 3 ((x2_1.1).flatMap e47)) :: (47, .int .i64 x2_1.2) :: (46, .vec (x2_1.1).length 3 ((x2_1.1).flatMap e47)) :: (43, .tuple [.vec (x2_1.1).length 3 ((x2_1.1).flatMap e47), .int .i64 x2_1.2]) :: (45, .tuple [.vec (x2_1.1).length 3 ((x2_1.1).flatMap e47), .int .i64 x2_1.2]) :: (44, .str y12_0) :: (26, .bool false) :: E4)
   refine oR 7 (p' := g9p13) (eE := E12) (H' := (mkH [])) (by kernel_rfl) ?_
   refine oK [0, 1, 5, 7, 8] (eE := [(0, .vec (a0).length 1 ((a0).flatMap e4)), (1, .vec (a1).length 1 ((a1).flatMap e4)), (5, .str y12_0), (7, .vec (x2_1.1).length 3 ((x2_1.1).flatMap e47)), (8, .int .i64 x2_1.2)]) (by kernel_rfl) ?_
   let E13 : Env := [(49, .vec (x2_1.1).length 3 ((x2_1.1).flatMap e47)), (48, .str y12_0), (0, .vec (a0).length 1 ((a0).flatMap e4)), (1, .vec (a1).length 1 ((a1).flatMap e4)), (5, .str y12_0), (7, .vec (x2_1.1).length 3 ((x2_1.1).flatMap e47)), (8, .int .i64 x2_1.2)]
   refine oR 3 (p' := (atN 2 (ctl1 g9p13))) (eE := E13) (H' := (mkH [])) (by kernel_rfl) ?_
   refine oC (fun (x3_2 : (List S36)) => .vec (x3_2).length 4 ((x3_2).flatMap e37)) (atN 3 (ctl1 g9p13)) (fun x3_2 => ((50, .vec (x3_2).length 4 ((x3_2).flatMap e37)) :: E13)) (fi := 29) (args := [.str y12_0, .vec (x2_1.1).length 3 ((x2_1.1).flatMap e47)]) (by kernel_rfl) (by kernel_rfl) (fun _ => by kernel_rfl) (fun r h => g29_ok k y12_0 x2_1.1 r h) (fun _ => by kernel_rfl) (fun x3_2 hx3_2 => ?_)
   let E14 : Env := ((53, .bool (!decide (x2_1.2 = 0))) :: (52, .bool (!decide (x2_1.2 = 0))) :: (51, .int .i64 x2_1.2) :: (9, .vec (x3_2).length 4 ((x3_2).flatMap e37)) :: (50, .vec (x3_2).length 4 ((x3_2).flatMap e37)) :: E13)
   refine oR 8 (p' := (atN 3 (ctl1 g9p16))) (eE := E14) (H' := (mkH [])) (by kernel_rfl) ?_
   refine oJ (f := fun (z14 : Bool × (List Nat)) => if z14.1 then (some false) else (g9_l16 k a0 a1 x2_1 x3_2 k z14.2 0)) g9p18 (fun (z14 : Bool × (List Nat)) => [(0, .vec (a0).length 1 ((a0).flatMap e4)), (1, .vec (a1).length 1 ((a1).flatMap e4)), (5, .str z14.2), (7, .vec (x2_1.1).length 3 ((x2_1.1).flatMap e47)), (9, .vec (x3_2).length 4 ((x3_2).flatMap e37)), (59, .bool z14.1)]) (fun (z14 : Bool × (List Nat)) => (mkH [])) (fun z14 => ?_) (fun j14 hj14 => ?_)
   ·refine oS 59 (b := z14.1) (by kernel_rfl) (fun hb => ?_) (fun hb => ?_)
    ·let E15 : Env := [(4, .bool false), (59, .bool true), (0, .vec (a0).length 1 ((a0).flatMap e4)), (1, .vec (a1).length 1 ((a1).flatMap e4)), (5, .str z14.2), (7, .vec (x2_1.1).length 3 ((x2_1.1).flatMap e47)), (9, .vec (x3_2).length 4 ((x3_2).flatMap e37)), (59, .bool z14.1)]
     refine oR 6 (p' := .fin) (eE := E15) (H' := (mkH [])) (by kernel_rfl) ?_
     exact oT (r := false) (xs := [.bool false]) (v := .bool false) (by kernel_rfl) (by kernel_rfl) (by kernel_rfl) (.pures (by kernel_rfl)) (by kernel_rfl)
    ·let E16 : Env := [(10, .int .i64 0), (59, .bool false), (0, .vec (a0).length 1 ((a0).flatMap e4)), (1, .vec (a1).length 1 ((a1).flatMap e4)), (5, .str z14.2), (7, .vec (x2_1.1).length 3 ((x2_1.1).flatMap e47)), (9, .vec (x3_2).length 4 ((x3_2).flatMap e37)), (59, .bool z14.1)]
     refine oR 9 (p' := g9p24) (eE := E16) (H' := (mkH [])) (by kernel_rfl) ?_
     refine oK [0, 1, 5, 7, 9, 10] (eE := [(0, .vec (a0).length 1 ((a0).flatMap e4)), (1, .vec (a1).length 1 ((a1).flatMap e4)), (5, .str z14.2), (7, .vec (x2_1.1).length 3 ((x2_1.1).flatMap e47)), (9, .vec (x3_2).length 4 ((x3_2).flatMap e37)), (10, .int .i64 0)]) (by kernel_rfl) ?_
     exact (g9_l16_ok k a0 a1 x2_1 x3_2 k) z14.2 0
   ·refine oS 53 (b := !decide (x2_1.2 = 0)) (by kernel_rfl) (fun hb => ?_) (fun hb => ?_)
    ·let E38 : Env := ((59, .bool true) :: (58, .tuple []) :: (57, .tuple []) :: (56, .tuple []) :: (55, .tuple []) :: (54, .tuple []) :: (53, .bool true) :: E14)
     refine oR 7 (p' := g9p18) (eE := E38) (H' := (mkH [])) (by kernel_rfl) ?_
     refine oK [0, 1, 5, 7, 9, 59] (eE := [(0, .vec (a0).length 1 ((a0).flatMap e4)), (1, .vec (a1).length 1 ((a1).flatMap e4)), (5, .str y12_0), (7, .vec (x2_1.1).length 3 ((x2_1.1).flatMap e47)), (9, .vec (x3_2).length 4 ((x3_2).flatMap e37)), (59, .bool true)]) (by kernel_rfl) ?_
     exact hj14 (true, y12_0)
    ·let E39 : Env := ((59, .bool (!decide ((x3_2.length : Int) = (a0.length : Int)))) :: (58, .bool (!decide ((x3_2.length : Int) = (a0.length : Int)))) :: (57, .int .i64 (a0.length : Int)) :: (56, .vec (a0).length 1 ((a0).flatMap e4)) :: (55, .int .i64 (x3_2.length : Int)) :: (54, .vec (x3_2).length 4 ((x3_2).flatMap e37)) :: (53, .bool false) :: E14)
     refine oR 7 (p' := g9p18) (eE := E39) (H' := (mkH [])) (by kernel_rfl) ?_
     refine oK [0, 1, 5, 7, 9, 59] (eE := [(0, .vec (a0).length 1 ((a0).flatMap e4)), (1, .vec (a1).length 1 ((a1).flatMap e4)), (5, .str y12_0), (7, .vec (x2_1.1).length 3 ((x2_1.1).flatMap e47)), (9, .vec (x3_2).length 4 ((x3_2).flatMap e37)), (59, .bool (!decide ((x3_2.length : Int) = (a0.length : Int))))]) (by kernel_rfl) ?_
     exact hj14 (!decide ((x3_2.length : Int) = (a0.length : Int)), y12_0)
def g9 (k : Nat) (a0 : (List Bool)) (a1 : (List Bool)) : Option Bool :=
 jn (fun (z11 : Bool) => if z11 then ((g27 k).bind fun x0_0 => some x0_0) else (g9_l12 k a0 a1 k ([] : List Nat) 0)) (fun j11 => if (decide (20 < (a0.length : Int))) then (j11 true) else (j11 (decide ((a1.length : Int) < (a0.length : Int)))))
theorem g9_ok (k : Nat) (a0 : (List Bool)) (a1 : (List Bool)) (r : Bool) (h : g9 k a0 a1 = some r) : PureOk Try.prog 9 [.vec (a0).length 1 ((a0).flatMap e4), .vec (a1).length 1 ((a1).flatMap e4)] (.bool r) := by
 refine pure_of X9 (fun _ => rfl) Try.func9 (by decide +kernel) (by kernel_rfl) (t := g9 k a0 a1) ?_ h
 unfold g9
 refine oE (eE := [(0, .vec (a0).length 1 ((a0).flatMap e4)), (1, .vec (a1).length 1 ((a1).flatMap e4))]) (by kernel_rfl) ?_
 let E1 : Env := [(15, .bool (decide (20 < (a0.length : Int)))), (14, .bool (decide (20 < (a0.length : Int)))), (13, .int .i64 (a0.length : Int)), (12, .vec (a0).length 1 ((a0).flatMap e4)), (4, .bool false), (0, .vec (a0).length 1 ((a0).flatMap e4)), (1, .vec (a1).length 1 ((a1).flatMap e4))]
 refine oR 11 (p' := (atN 4 (ctl1 g9p1))) (eE := E1) (H' := (mkH [])) (by kernel_rfl) ?_
 refine oJ (f := fun (z11 : Bool) => if z11 then ((g27 k).bind fun x0_0 => some x0_0) else (g9_l12 k a0 a1 k ([] : List Nat) 0)) g9p2 (fun (z11 : Bool) => [(0, .vec (a0).length 1 ((a0).flatMap e4)), (1, .vec (a1).length 1 ((a1).flatMap e4)), (21, .bool z11)]) (fun (z11 : Bool) => (mkH [])) (fun z11 => ?_) (fun j11 hj11 => ?_)
 ·refine oS 21 (b := z11) (by kernel_rfl) (fun hb => ?_) (fun hb => ?_)
  ·refine oR 3 (p' := (atN 0 (ctl1 g9p3))) (eE := [(21, .bool true), (0, .vec (a0).length 1 ((a0).flatMap e4)), (1, .vec (a1).length 1 ((a1).flatMap e4)), (21, .bool z11)]) (H' := (mkH [])) (by kernel_rfl) ?_
   refine oC (fun (x0_0 : Bool) => .bool x0_0) (atN 1 (ctl1 g9p3)) (fun x0_0 => [(22, .bool x0_0), (21, .bool true), (0, .vec (a0).length 1 ((a0).flatMap e4)), (1, .vec (a1).length 1 ((a1).flatMap e4)), (21, .bool z11)]) (fi := 27) (args := []) (by kernel_rfl) (by kernel_rfl) (fun _ => by kernel_rfl) (fun r h => g27_ok k  r h) (fun _ => by kernel_rfl) (fun x0_0 hx0_0 => ?_)
   let E2 : Env := [(4, .bool x0_0), (22, .bool x0_0), (21, .bool true), (0, .vec (a0).length 1 ((a0).flatMap e4)), (1, .vec (a1).length 1 ((a1).flatMap e4)), (21, .bool z11)]
   refine oR 3 (p' := .fin) (eE := E2) (H' := (mkH [])) (by kernel_rfl) ?_
   exact oT (r := x0_0) (xs := [.bool x0_0]) (v := .bool x0_0) (by kernel_rfl) (by kernel_rfl) (by kernel_rfl) (.pures (by kernel_rfl)) (by kernel_rfl)
  ·let E3 : Env := [(6, .int .i64 0), (5, .str []), (21, .bool false), (0, .vec (a0).length 1 ((a0).flatMap e4)), (1, .vec (a1).length 1 ((a1).flatMap e4)), (21, .bool z11)]
   refine oR 13 (p' := g9p7) (eE := E3) (H' := (mkH [])) (by kernel_rfl) ?_
   refine oK [0, 1, 5, 6] (eE := [(0, .vec (a0).length 1 ((a0).flatMap e4)), (1, .vec (a1).length 1 ((a1).flatMap e4)), (5, .str []), (6, .int .i64 0)]) (by kernel_rfl) ?_
   exact (g9_l12_ok k a0 a1 k) ([] : List Nat) 0
 ·refine oS 15 (b := decide (20 < (a0.length : Int))) (by kernel_rfl) (fun hb => ?_) (fun hb => ?_)
  ·let E40 : Env := ((21, .bool true) :: (20, .tuple []) :: (19, .tuple []) :: (18, .tuple []) :: (17, .tuple []) :: (16, .tuple []) :: (15, .bool true) :: E1)
   refine oR 7 (p' := g9p2) (eE := E40) (H' := (mkH [])) (by kernel_rfl) ?_
   refine oK [0, 1, 21] (eE := [(0, .vec (a0).length 1 ((a0).flatMap e4)), (1, .vec (a1).length 1 ((a1).flatMap e4)), (21, .bool true)]) (by kernel_rfl) ?_
   exact hj11 true
  ·let E41 : Env := ((21, .bool (decide ((a1.length : Int) < (a0.length : Int)))) :: (20, .bool (decide ((a1.length : Int) < (a0.length : Int)))) :: (19, .int .i64 (a0.length : Int)) :: (18, .vec (a0).length 1 ((a0).flatMap e4)) :: (17, .int .i64 (a1.length : Int)) :: (16, .vec (a1).length 1 ((a1).flatMap e4)) :: (15, .bool false) :: E1)
   refine oR 7 (p' := g9p2) (eE := E41) (H' := (mkH [])) (by kernel_rfl) ?_
   refine oK [0, 1, 21] (eE := [(0, .vec (a0).length 1 ((a0).flatMap e4)), (1, .vec (a1).length 1 ((a1).flatMap e4)), (21, .bool (decide ((a1.length : Int) < (a0.length : Int))))]) (by kernel_rfl) ?_
   exact hj11 (decide ((a1.length : Int) < (a0.length : Int)))
end
end Go.Proofs.Ytbmijiibfaacmaa.Am
set_option maxRecDepth 100000
set_option linter.unusedVariables false
set_option linter.unusedSimpArgs false
namespace Go.Proofs.Ytbmijiibfaacmaa.Am
open Go
theorem told8 (k : Nat) : g27 (k + 60) = some true := by kernel_rfl
theorem eqL_self (s : List Nat) : eqL s s = true := (eqL_iff s s).2 rfl
theorem V_asc : ∀ {s : List Nat}, (∀ c ∈ s, c < 128) → V s = true
 | [], h => rfl
 | c :: r, h => by
  rw [V_ascii r (h c List.mem_cons_self)]
  exact V_asc (fun b hb => h b (List.mem_cons_of_mem _ hb))
theorem man_asc : ∀ (L : List Pc), ∀ c ∈ manT L, c < 128
 | [], c, h => by cases h
 | (n, b) :: r, c, h => by
  have ih := man_asc r
  rcases List.mem_append.1 h with h | h
  ·revert h
   cases b
   ·intro h; cases h
   ·exact fun h => (by decide : ∀ c ∈ [10, 10], c < 128) c h
  ·rcases List.mem_append.1 h with h | h
   ·revert h
    cases n
    ·exact fun h => (by decide : ∀ c ∈ [102, 40, 120, 44, 32, 37, 105, 110, 10, 32, 121, 41, 32, 45, 62, 32, 122, 46], c < 128) c h
    ·exact fun h => (by decide : ∀ c ∈ [37, 32, 99], c < 128) c h
   ·rcases List.mem_cons.1 h with rfl | h
    ·omega
    ·exact ih c h
theorem man_app : ∀ (A B : List Pc), manT (A ++ B) = manT A ++ manT B
 | [], B => rfl
 | p :: A, B => by
  rw [List.cons_append]
  show nlP p ++ (txP p ++ 10 :: manT (A ++ B)) = (nlP p ++ (txP p ++ 10 :: manT A)) ++ manT B
  rw [man_app A B]; simp
theorem man_len : ∀ (L : List Pc), (manT L).length ≤ 21 * L.length
 | [] => Nat.le_refl _
 | p :: r => by
  have ih := man_len r
  have h1 : (nlP p).length ≤ 2 := by obtain ⟨n, b⟩ := p; cases b <;> simp [nlP]
  have h2 : (txP p).length ≤ 18 := by obtain ⟨n, b⟩ := p; cases n <;> simp [txP]
  show (nlP p ++ (txP p ++ 10 :: manT r)).length ≤ _
  simp only [List.length_append, List.length_cons]; omega
theorem bytes_man (k : Nat) {s : List Nat} (hl : s.length ≤ 2000) {l : List T3} (ht : Toks s 0 l) {p : Pc} {r : List Pc} {i a : Nat} (h : Iv s l (p :: r) i a) (nt b : Bool) : g32 k s (l.map (mkTok s)) (itm (i, i + ntP p, nt, b)) = some (txP p) := by
 have ll : (l.map (mkTok s)).length = l.length := List.length_map _
 have cl : l.length ≤ s.length := toks_len s (s.length + 1) 0 l ((toks_iff s (s.length + 1) 0 l (by omega)).2 ht) (Nat.zero_le _)
 have hk : l.drop i = tkP p (bgP p a) ++ tkA r (bgP p a + lnP p + 1) := h.k
 obtain ⟨x, q, hx, hxb⟩ := tkP_first p (bgP p a)
 obtain ⟨y, hy, hye⟩ := tkP_last p (bgP p a)
 have hn := ntP_pos p
 have hkl := congrArg List.length hk
 rw [List.length_drop, List.length_append, tkP_len] at hkl
 have n1 : l.drop i = x :: (q ++ tkA r (bgP p a + lnP p + 1)) := by rw [hk, hx]; rfl
 have n2 : l.drop (i + ntP p - 1) = y :: tkA r (bgP p a + lnP p + 1) := by
  rw [show i + ntP p - 1 = i + (ntP p - 1) by omega, ← List.drop_drop, hk, List.drop_append_of_le_length (by rw [tkP_len]; omega), hy]; rfl
 have bY := toks_bounds ht (Nat.zero_le _) y (List.mem_of_mem_drop (i := i + ntP p - 1) (by rw [n2]; exact List.mem_cons_self))
 have hb : s.drop (bgP p a) = txP p ++ 10 :: manT r := by
  rw [← nlP_len, ← List.drop_drop, h.t]
  show (nlP p ++ (txP p ++ 10 :: manT r)).drop (nlP p).length = _
  rw [List.drop_left]
 have sm : subL s (some (mkTok s x).f2) (some ((y.2.1 + y.2.2 : Nat) : Int)) = some (txP p) := by
  have e := subMid (s := s) (x := (mkTok s x).f2) (y := ((y.2.1 + y.2.2 : Nat) : Int)) (i := x.2.1) (j := y.2.1 + y.2.2) rfl rfl (by omega) bY.2.1
  rw [e, List.drop_take, hxb, hye, hb, show bgP p a + lnP p - bgP p a = (txP p).length by rw [txP_len]; omega, List.take_left]
 unfold g32
 refine (jS (v := false) (fun j => ?_)).trans ?_
 ·refine iF (dF (by show ¬ (i : Int) < 0; omega)) ?_
  refine iF (dF (by show ¬ ((l.map (mkTok s)).length : Int) < ((i + ntP p : Nat) : Int); omega)) ?_
  rw [dF (show ¬ (itm (i, i + ntP p, nt, b)).f1 ≤ (itm (i, i + ntP p, nt, b)).f0 by show ¬ ((i + ntP p : Nat) : Int) ≤ (i : Int); omega)]
 ·refine iF rfl ?_
  refine bS (by (try simp (disch := omega) only [fwI]); exact map_drop' (f := mkTok s) n1) ?_
  rw [show fW .i64 ((itm (i, i + ntP p, nt, b)).f1 - 1) = ((i + ntP p - 1 : Nat) : Int) from by
   show fW .i64 (((i + ntP p : Nat) : Int) - 1) = _
   rw [fwI (by omega) (by omega)]; omega]
  refine bS (by (try simp (disch := omega) only [fwI]); exact map_drop' (f := mkTok s) n2) ?_
  refine bS (by (try simp (disch := omega) only [fwI]); exact gend_at hl bY.2.1) ?_
  refine (jS (v := false) (fun j => ?_)).trans ?_
  ·refine iF (dF (show ¬ (x.2.1 : Int) < 0 by omega)) ?_
   refine iF (dF (by omega)) ?_
   rw [dF (show ¬ ((y.2.1 + y.2.2 : Nat) : Int) < (mkTok s x).f2 by show ¬ ((y.2.1 + y.2.2 : Nat) : Int) < (x.2.1 : Int); omega)]
  ·refine iF rfl ?_
   refine bS (by (try simp (disch := omega) only [fwI]); exact sm) ?_
   rfl
theorem many_2 (k : Nat) {s : List Nat} (hl : s.length ≤ 1900) {l : List T3} (ht : Toks s 0 l) (a0 a1 : List Bool) (hz : a0.length ≤ a1.length) (h20 : a0.length ≤ 20) (er : Int) (X : List S36) : ∀ (L : List Pc) (m i a f : Nat), m ≤ 100 → (a0.zip a1).drop m = L → X.drop m = (itA (blkF s l) L i).map itm → Iv s l L i a → (i = 0 ↔ m = 0) → X.length = a0.length → L.length < f →
 g9_l16 (k + 60) a0 a1 (l.map (mkTok s), er) X f s (m : Int) = some true
 | L, m, i, a, 0, hm, hL, hX, h, h0, hc, hf => by omega
 | [], m, i, a, f + 1, hm, hL, hX, h, h0, hc, hf => by
  have := List.drop_eq_nil_iff.1 hL
  rw [List.length_zip] at this
  rw [g9_l16_s]
  refine iF (dF (by omega)) ?_
  refine bS (by (try simp (disch := omega) only [fwI]); exact told8 k) ?_
  rfl
 | p :: r, m, i, a, f + 1, hm, hL, hX, h, h0, hc, hf => by
  have hln := congrArg List.length hL
  rw [List.length_drop, List.length_zip, List.length_cons] at hln
  have hp : (a0.zip a1)[m]? = some p := by
   have := List.getElem?_drop (xs := a0.zip a1) (i := m) (j := 0)
   rw [hL] at this
   simpa using this.symm
  have hp2 := List.getElem?_zip_eq_some.1 hp
  have q0 : nthL a0 (m : Int) = some p.1 := by unfold nthL; rw [if_pos (by omega), Int.toNat_natCast]; exact hp2.1
  have q1 : nthL a1 (m : Int) = some p.2 := by unfold nthL; rw [if_pos (by omega), Int.toNat_natCast]; exact hp2.2
  have hX1 : X.drop m = itm (i, i + ntP p, p.1, blkF s l i) :: (itA (blkF s l) r (i + ntP p)).map itm := hX
  have qx := nthL_at hX1
  have hn := ntP_pos p
  have ih := many_2 k hl ht a0 a1 hz h20 er X r (m + 1) (i + ntP p) (bgP p a + lnP p + 1) f (by omega) (by rw [← List.drop_drop, hL]; rfl) (by rw [← List.drop_drop, hX1]; rfl) h.s (by omega) hc (by simp only [List.length_cons] at hf; omega)
  have hbl := h.bl
  have by1 := bytes_man (k + 60) (by omega) ht h p.1 (blkF s l i)
  rw [g9_l16_s]
  refine iT (dT (by omega)) ?_
  refine bS (by (try simp (disch := omega) only [fwI]); exact q0) ?_
  refine (jS (v := (txP p, (m : Int))) (fun j => ?_)).trans ?_
  ·obtain ⟨n, b⟩ := p
   cases n <;> rfl
  ·refine (jS (v := (false, (m : Int))) (fun j => ?_)).trans ?_
   ·refine bS (by (try simp (disch := omega) only [fwI]); exact qx) ?_
    refine bS (by (try simp (disch := omega) only [fwI]); exact q0) ?_
    refine iF (by show (!(p.1 == p.1)) = false; simp) ?_
    refine bS (by (try simp (disch := omega) only [fwI]); exact qx) ?_
    refine bS (by (try simp (disch := omega) only [fwI]); exact q1) ?_
    have f3 : (itm (i, i + ntP p, p.1, blkF s l i)).f3 = (p.2 && decide (0 < i)) := hbl
    have hd : decide (0 < i) = decide (0 < (m : Int)) := by
     rw [Bool.eq_iff_iff, decide_eq_true_eq, decide_eq_true_eq]; omega
    rw [f3, hd]
    have fin : ((nthL X (m : Int)).bind fun x10_31 => (g32 (k + 60) s (l.map (mkTok s)) (⟨x10_31.f0, x10_31.f1, x10_31.f2, x10_31.f3⟩ : S36)).bind fun x10_33 => j (!(eqL x10_33 (txP p)), (m : Int))) = j (false, (m : Int)) := by
     refine bS (by (try simp (disch := omega) only [fwI]); exact qx) ?_
     refine bS (by (try simp (disch := omega) only [fwI]); exact by1) ?_
     rw [eqL_self]; rfl
    cases hb2 : p.2
    ·refine iF rfl ?_
     refine iF (by simp) ?_
     exact fin
    ·refine iT rfl ?_
     refine iF (by simp) ?_
     exact fin
   ·refine iF rfl ?_
    rw [fw_s (by omega)]
    exact ih
theorem many_1 (k : Nat) (hk : 3000 ≤ k) (a0 a1 : List Bool) (hz : a0.length ≤ a1.length) (h20 : a0.length ≤ 20) : ∀ (d m f : Nat), m + d = a0.length → d < f → g9_l12 (k + 60) a0 a1 f (manT ((a0.zip a1).take m)) (m : Int) = some true
 | d, m, 0, h, hf => by omega
 | 0, m, f + 1, h, hf => by
  have hzl : (a0.zip a1).length = a0.length := by rw [List.length_zip]; omega
  rw [List.take_of_length_le (by omega)]
  rw [g9_l12_s]
  refine iF (dF (by omega)) ?_
  have ml := man_len (a0.zip a1)
  have asc := man_asc (a0.zip a1)
  have ht := toks_man (a0.zip a1) (manT (a0.zip a1)) 0 rfl
  have hs := scan_some (s := manT (a0.zip a1)) (by omega) (V_asc asc) ht
  have hi : Iv (manT (a0.zip a1)) (tkA (a0.zip a1) 0) (a0.zip a1) 0 0 := ⟨rfl, rfl, .inl rfl⟩
  have hk2 : ∀ bl f, (kindsN (tkA (a0.zip a1) 0)).length ≤ f → splN bl f (kindsN (tkA (a0.zip a1) 0)) 0 = itA bl (a0.zip a1) 0 := fun bl f h => kinds_man bl (a0.zip a1) 0 0 f h
  have itl : ∀ (bl : Nat → Bool) (L : List Pc) i, (itA bl L i).length = L.length := by
   intro bl L
   induction L with
   | nil => intro i; rfl
   | cons p r ih => intro i; show (_ :: itA bl r _).length = _; rw [List.length_cons, ih, List.length_cons]
  have hL : (a0.zip a1).length ≤ 20 := by omega
  generalize hS : manT (a0.zip a1) = s at *
  have cl : (tkA (a0.zip a1) 0).length ≤ s.length := toks_len s (s.length + 1) 0 _ ((toks_iff s (s.length + 1) 0 _ (by omega)).2 ht) (Nat.zero_le _)
  refine bS (by (try simp (disch := omega) only [fwI]); exact rscan_at (k := k + 60) (s := s) (by omega) (fun b hb => by have := asc b hb; omega) (show s.length ≤ _ by omega)) ?_
  rw [hs]
  refine bS (by (try simp (disch := omega) only [fwI]); exact split_at (k := k + 60) (by omega) (by omega) ht) ?_
  rw [hk2 _ _ (by rw [kindsN, List.length_map]; omega)]
  have xl : ((itA (blkF s (tkA (a0.zip a1) 0)) (a0.zip a1) 0).map itm).length = a0.length := by rw [List.length_map, itl, hzl]
  refine (jS (v := (false, s)) (fun j => ?_)).trans ?_
  ·refine iF rfl ?_
   rw [xl, dT rfl]; rfl
  ·refine iF rfl ?_
   exact many_2 k (by omega) ht a0 a1 hz h20 0 _ (a0.zip a1) 0 0 0 (k + 60) (by omega) rfl rfl hi (by omega) xl (by omega)
 | d + 1, m, f + 1, h, hf => by
  have hzl : (a0.zip a1).length = a0.length := by rw [List.length_zip]; omega
  obtain ⟨p, r, hp, -, -, -⟩ := dconsL (s := a0.zip a1) (i := m) (by omega)
  have hp1 : (a0.zip a1)[m]? = some p := by
   have := List.getElem?_drop (xs := a0.zip a1) (i := m) (j := 0)
   rw [hp] at this
   simpa using this.symm
  have hp2 := List.getElem?_zip_eq_some.1 hp1
  have q0 : nthL a0 (m : Int) = some p.1 := by unfold nthL; rw [if_pos (by omega), Int.toNat_natCast]; exact hp2.1
  have q1 : nthL a1 (m : Int) = some p.2 := by unfold nthL; rw [if_pos (by omega), Int.toNat_natCast]; exact hp2.2
  have ht : (a0.zip a1).take (m + 1) = (a0.zip a1).take m ++ [p] := by
   rw [List.take_add_one, hp1]; rfl
  have ih := many_1 k hk a0 a1 hz h20 d (m + 1) f (by omega) (by omega)
  rw [ht, man_app] at ih
  have ml := man_len ((a0.zip a1).take m)
  rw [List.length_take] at ml
  generalize manT ((a0.zip a1).take m) = y at *
  have ml : y.length ≤ 420 := by omega
  obtain ⟨n, b⟩ := p
  rw [g9_l12_s]
  refine iT (dT (by omega)) ?_
  refine bS (by (try simp (disch := omega) only [fwI]); exact q1) ?_
  refine (jS (v := (y ++ nlP (n, b), (m : Int))) (fun j => ?_)).trans ?_
  ·cases b
   ·refine iF rfl ?_
    simp [nlP]
   ·refine iT rfl ?_
    have c1 : catS y [10, 10] = some (y ++ [10, 10]) := by unfold catS; rw [if_pos (by simp only [List.length_cons, List.length_nil]; omega)]
    refine bS (by (try simp (disch := omega) only [fwI]); exact c1) ?_
    rfl
  ·refine bS (by (try simp (disch := omega) only [fwI]); exact q0) ?_
   have nl : (nlP (n, b)).length ≤ 2 := by cases b <;> simp [nlP]
   refine (jS (v := (y ++ manT [(n, b)], (m : Int))) (fun j => ?_)).trans ?_
   ·cases n
    ·refine iF rfl ?_
     have c1 : catS (y ++ nlP (false, b)) g9c0 = some (y ++ manT [(false, b)]) := by
      unfold catS
      rw [if_pos (by rw [List.length_append]; show _ + 19 < _; omega), List.append_assoc]; rfl
     refine bS (by (try simp (disch := omega) only [fwI]); exact c1) ?_
     rfl
    ·refine iT rfl ?_
     have c1 : catS (y ++ nlP (true, b)) [37, 32, 99, 10] = some (y ++ manT [(true, b)]) := by
      unfold catS
      rw [if_pos (by rw [List.length_append]; show _ + 4 < _; omega), List.append_assoc]; rfl
     refine bS (by (try simp (disch := omega) only [fwI]); exact c1) ?_
     rfl
   ·rw [fw_s (by omega)]
    exact ih
theorem splitMany_true (a0 a1 : List Bool) (h0 : ∀ x ∈ a0, True) (hl0 : a0.length ≤ 9223372036854775807) (h1 : ∀ x ∈ a1, True) (hl1 : a1.length ≤ 9223372036854775807) : ∃ k, g9 k a0 a1 = some true := by
 refine ⟨3940 + 60, ?_⟩
 unfold g9
 by_cases h : 20 < a0.length ∨ a1.length < a0.length
 ·refine (jS (v := true) (fun j => ?_)).trans ?_
  ·by_cases h1 : 20 < a0.length
   ·exact iT (dT (by omega)) rfl
   ·refine iF (dF (by omega)) ?_
    rw [dT (by omega)]
  ·refine iT rfl ?_
   refine bS (by (try simp (disch := omega) only [fwI]); exact told8 3940) ?_
   rfl
 ·refine (jS (v := false) (fun j => ?_)).trans ?_
  ·refine iF (dF (by omega)) ?_
   rw [dF (by omega)]
  ·refine iF rfl ?_
   exact many_1 3940 (by omega) a0 a1 (by omega) (by omega) a0.length 0 (3940 + 60) (by omega) (by omega)
end Go.Proofs.Ytbmijiibfaacmaa.Am
set_option linter.unusedVariables false
namespace Go.Proofs.Ytbmijiibfaacmaa.Am
open Go Go.ChangeShapes Go.WideShapes
def mpOf (fz : List (Nat × List AV)) : Mp := ⟨fun _ _ => none, fun i => fz[i]?⟩
theorem law_walk_fz {P : Program} {n : Nat} {xs : List AV} {args : Array Value} (h : PureOk P n xs (.bool true)) (w : World) (fz : List (Nat × List AV)) (hargs : VRs (mpOf fz) xs args.toList)
 (hfz : ∀ p ∈ fz, ∃ cs ty fr, w.heap[p.1]? = some (.cells cs ty fr) ∧ p.2.length ≤ cs.size ∧ VRs (mpOf fz) p.2 (cs.toList.take p.2.length)) :
 Calls P n args w fun e W' => e = .returned (.bool true) ∧ RowKit.Below w.heap.size w W' := by
 refine Calls.mono (h.1 (mpOf fz) w args (fun _ _ => rfl) hargs ?_) ?_
 ·refine ⟨?_, ?_, ?_, fun _ _ => rfl, ?_, ?_, ?_, ⟨fz.length, fun i hi => List.getElem?_eq_none hi⟩, Nat.le_refl _, by show 0 ≤ roots; unfold roots; omega⟩
  ·intro r b v B N hb hm; cases hm
  ·intro r v B N hm; cases hm
  ·intro r v B N r' v' N' hm; cases hm
  ·intro r v B N hm; cases hm
  ·intro i B cells hi
   exact hfz (B, cells) (List.mem_of_getElem? hi)
  ·intro i B cells r v N b _ hm; cases hm
 ·rintro e w' ⟨m', c, rfl, q1, q2, q3⟩
  simp only [VR] at q3
  exact ⟨by rw [q3], q2.below (Nat.le_refl _)⟩
theorem VRs_all {m : Mp} : ∀ {xs : List AV} {cs : List Value}, xs.length = cs.length → (∀ (i : Nat) x c, xs[i]? = some x → cs[i]? = some c → VR m x c) → VRs m xs cs
 | [], [], _, _ => by simp only [VRs]
 | [], _ :: _, h, _ => by cases h
 | _ :: _, [], h, _ => by cases h
 | x :: xs, c :: cs, h, k => by
  simp only [VRs]
  exact ⟨c, cs, rfl, k 0 x c rfl rfl, VRs_all (by simpa using h) (fun i x' c' hx hc => k (i + 1) x' c' (by simpa using hx) (by simpa using hc))⟩
theorem cell_add {w : World} {x : Addr} {i : Nat} {v : Value} (h : w.cell? (x.add i) = some v) : ∃ cs ty fr, w.heap[x.block]? = some (.cells cs ty fr) ∧ cs[x.off + i]? = some v ∧ (i = 0 → x.spot = none) := by
 have hb : (x.add i).block = x.block := by unfold Addr.add; split <;> rfl
 have ho : (x.add i).off = x.off + i := by unfold Addr.add; split <;> simp_all
 have hs : i = 0 → (x.add i).spot = x.spot := by intro e; subst e; rfl
 unfold World.cell? at h
 rw [hb, ho] at h
 cases hw : w.heap[x.block]? with
 | none => rw [hw] at h; cases h
 | some o =>
  rw [hw] at h
  cases o with
  | cells cs ty fr =>
   simp only [] at h
   cases hsp : (x.add i).spot with
   | none => rw [hsp] at h; exact ⟨cs, ty, fr, rfl, by simpa using h, fun e => by rw [← hs e, hsp]⟩
   | some q => rw [hsp] at h; simp at h
  | _ => simp at h
section
variable {H : Type} {enc : TypeId × Value → H} {P : Program} {w : World} {base : Nat} {held : Bool}
end
end Go.Proofs.Ytbmijiibfaacmaa.Am
set_option linter.unusedVariables false
namespace Go.Proofs.Ytbmijiibfaacmaa.Am
open Go Go.ChangeShapes Go.WideShapes
def IsRowG (n : Nat) (w : World) (a : Option Addr) (len cap : Nat) (av : List AV) : Prop :=
 (a = none ∧ len = 0 ∧ cap = 0 ∧ av = []) ∨
 ∃ x, a = some x ∧ len ≤ cap ∧ av.length = len * n ∧ ∀ i v, av[i]? = some v → ∃ c, w.cell? (x.add i) = some c ∧ ∀ m, VR m v c
def frozOfG (a : Option Addr) (av : List AV) : Nat × List AV := match a with
 | none => (0, [])
 | some x => (x.block, List.replicate x.off .top ++ av)
theorem rowG_froz {n : Nat} {w : World} {a : Option Addr} {len cap : Nat} {av : List AV} (h : IsRowG n w a len cap av) (hne : av ≠ []) (fz : List (Nat × List AV)) :
 ∃ cs ty fr, w.heap[(frozOfG a av).1]? = some (.cells cs ty fr) ∧ (frozOfG a av).2.length ≤ cs.size ∧ VRs (mpOf fz) (frozOfG a av).2 (cs.toList.take (frozOfG a av).2.length) := by
 rcases h with ⟨_, _, _, rfl⟩ | ⟨x, rfl, hl, hz, hc⟩
 ·exact absurd rfl hne
 ·have hpos : 0 < av.length := List.length_pos_iff.2 hne
  obtain ⟨c0, h1, -⟩ := hc (av.length - 1) _ (List.getElem?_eq_getElem (by omega))
  obtain ⟨cs, ty, fr, hb, h0, -⟩ := cell_add h1
  have hsz : x.off + (av.length - 1) < cs.size := by
   rcases Nat.lt_or_ge (x.off + (av.length - 1)) cs.size with h | h
   ·exact h
   ·rw [Array.getElem?_eq_none h] at h0; cases h0
  refine ⟨cs, ty, fr, hb, by simp only [frozOfG, List.length_append, List.length_replicate]; omega, ?_⟩
  refine VRs_all (by simp only [frozOfG, List.length_append, List.length_replicate, List.length_take, Array.length_toList]; omega) ?_
  intro i v c hv hcv
  simp only [frozOfG] at hv hcv
  by_cases hi : i < x.off
  ·rw [List.getElem?_append_left (by simpa using hi)] at hv
   rw [List.getElem?_replicate, if_pos hi] at hv
   cases hv
   simp only [VR]
  ·rw [List.getElem?_append_right (by simpa using Nat.le_of_not_lt hi), List.length_replicate] at hv
   have hlt : i - x.off < av.length := (List.getElem?_eq_some_iff.1 hv).1
   obtain ⟨c', h2, h3⟩ := hc (i - x.off) v hv
   obtain ⟨cs', ty', fr', hb', h4, -⟩ := cell_add h2
   rw [hb] at hb'
   cases hb'
   rw [show x.off + (i - x.off) = i from by omega] at h4
   rw [List.getElem?_take_of_lt (by simp only [List.length_append, List.length_replicate]; omega), Array.getElem?_toList, h4] at hcv
   cases hcv
   exact h3 _
theorem rowG_len {n : Nat} {w : World} {a : Option Addr} {len cap : Nat} {av : List AV} (h : IsRowG n w a len cap av) : av.length = len * n := by
 rcases h with ⟨_, rfl, _, rfl⟩ | ⟨x, _, _, hz, _⟩
 ·simp
 ·exact hz
theorem rowG_VR {n : Nat} {w : World} {a : Option Addr} {len cap : Nat} {av : List AV} (h : IsRowG n w a len cap av) (hn : 0 < n) (fz : List (Nat × List AV)) (id : Nat) (hid : av ≠ [] → fz[id]? = some (frozOfG a av)) : VR (mpOf fz) (.vec len n av) (.slice a len cap) := by
 simp only [VR]
 refine ⟨rowG_len h, a, cap, rfl, ?_, ?_, ?_⟩
 ·rcases h with ⟨_, rfl, rfl, rfl⟩ | ⟨x, _, hl, hz, _⟩
  ·exact Nat.le_refl _
  ·exact hl
 ·intro ha
  rcases h with ⟨_, rfl, rfl, rfl⟩ | ⟨x, hx, _, _, _⟩
  ·exact ⟨rfl, rfl⟩
  ·rw [hx] at ha; cases ha
 ·intro hpos
  have hp2 : 0 < av.length := by rw [rowG_len h]; exact Nat.mul_pos hpos hn
  have hne : av ≠ [] := List.length_pos_iff.1 hp2
  have hf := hid hne
  rcases h with ⟨_, _, _, rfl⟩ | ⟨x, rfl, hl, hz, hc⟩
  ·exact absurd rfl hne
  ·obtain ⟨c, h1, -⟩ := hc 0 _ (List.getElem?_eq_getElem hp2)
   obtain ⟨cs, ty, fr, hb, h0, hsp⟩ := cell_add h1
   have hspot := hsp rfl
   refine ⟨id, x.block, x.off, _, hf, ?_, ?_, ?_⟩
   ·cases x; simp only at hspot; rw [hspot]
   ·rw [List.drop_append_of_le_length (by simp), List.drop_of_length_le (by simp), List.nil_append]
    exact List.take_of_length_le (by omega)
   ·simp; omega
def fzOfG (a : Option Addr) (av : List AV) : List (Nat × List AV) := if av = [] then [] else [frozOfG a av]
theorem fzOfG_mem {a : Option Addr} {av : List AV} {p : Nat × List AV} (h : p ∈ fzOfG a av) : av ≠ [] ∧ p = frozOfG a av := by
 unfold fzOfG at h
 split at h
 ·cases h
 ·exact ⟨by assumption, List.mem_singleton.1 h⟩
theorem fzOfG_get {a : Option Addr} {av : List AV} (A B : List (Nat × List AV)) (h : av ≠ []) : (A ++ (fzOfG a av ++ B))[A.length]? = some (frozOfG a av) := by
 unfold fzOfG
 rw [if_neg h]
 simp
theorem add_add' (x : Addr) (i j : Nat) : (x.add i).add j = x.add (i + j) := by
 unfold Addr.add
 by_cases hi : i = 0
 ·subst hi; simp
 ·by_cases hj : j = 0
  ·subst hj; simp
  ·simp [hi, hj, Nat.add_assoc]
theorem VRs_get {m : Mp} : ∀ {xs : List AV} {cs : List Value}, VRs m xs cs → xs.length = cs.length ∧ ∀ (i : Nat) x, xs[i]? = some x → ∃ c, cs[i]? = some c ∧ VR m x c
 | [], cs, h => by
  simp only [VRs] at h; subst h
  exact ⟨rfl, fun i x hx => by simp at hx⟩
 | x :: xs, cs, h => by
  simp only [VRs] at h
  obtain ⟨y, ys, rfl, h1, h2⟩ := h
  obtain ⟨q1, q2⟩ := VRs_get h2
  refine ⟨by simp [q1], fun i z hz => ?_⟩
  cases i with
  | zero => simp at hz; subst hz; exact ⟨y, rfl, h1⟩
  | succ i => simpa using q2 i z (by simpa using hz)
section
variable {H : Type} {enc : TypeId × Value → H} {P : Program} {w : World} {base : Nat} {held : Bool}
theorem rowG_open {α : Type} {Q : α → Prop} {en : α → List AV} {n : Nat} {t e : TypeId} {a : Option Addr} {len cap : Nat} {d : DataW H} {ps : List MemPlace} (ht : P.underlying t = some (.slice e)) (hc : P.cellsOf e = n) (hlen : ∀ x, (en x).length = n)
 (hel : ∀ fuel cs y, DataW.trod enc P w base (fun _ => true) held fuel e cs = some y → ∃ x, Q x ∧ ∀ m, VRs m (en x) cs)
 (h : DataW.Trod enc P w base (fun _ => true) held t (.slice a len cap) d ps) : ∃ L : List α, IsRowG n w a len cap (L.flatMap en) ∧ L.length = len ∧ (∀ x ∈ L, Q x) ∧ len ≤ maxLen := by
 obtain ⟨fuel, hf⟩ := h
 rcases DataW.trod_slice ht hf with ⟨hcs, _⟩ | ⟨x, l, c, elems, rest, q, _, hcs, _, hb, hl, hm, hlq, hel', _, _⟩
 ·simp [Value.cells] at hcs
  obtain ⟨rfl, rfl, rfl⟩ := hcs
  exact ⟨[], .inl ⟨rfl, rfl, rfl, rfl⟩, rfl, (fun x hx => by cases hx), Nat.zero_le _⟩
 ·simp [Value.cells] at hcs
  obtain ⟨rfl, rfl, rfl⟩ := hcs
  have each : ∀ i, i < len → ∃ y, Q y ∧ ∃ cs, w.cells? base (x.add (i * n)) n = some cs ∧ ∀ m, VRs m (en y) cs := by
   intro i hi
   have h1 := hel' i hi
   rw [List.getElem?_eq_getElem (by omega), hc, Option.bind_eq_some_iff] at h1
   obtain ⟨cs, h2, h3⟩ := h1
   obtain ⟨y, h4, h5⟩ := hel _ _ _ h3
   exact ⟨y, h4, cs, h2, h5⟩
  have build : ∀ k, k ≤ len → ∃ L : List α, L.length = k ∧ (∀ y ∈ L, Q y) ∧ ∀ i v, (L.flatMap en)[i]? = some v → ∃ c, w.cell? (x.add i) = some c ∧ ∀ m, VR m v c := by
   intro k
   induction k with
   | zero => intro _; exact ⟨[], rfl, (fun y hy => by cases hy), (fun i v hv => by simp at hv)⟩
   | succ k ih =>
    intro hk
    obtain ⟨L, h1, h2, h3⟩ := ih (by omega)
    obtain ⟨y, h4, cs, h5, h6⟩ := each k (by omega)
    refine ⟨L ++ [y], by simp [h1], ?_, ?_⟩
    ·intro z hz
     rcases List.mem_append.1 hz with hz | hz
     ·exact h2 z hz
     ·rw [List.mem_singleton.1 hz]; exact h4
    ·intro i v hv
     have fl : (L.flatMap en).length = k * n := by rw [flatMap_len hlen, h1]
     rw [List.flatMap_append] at hv
     by_cases hi : i < k * n
     ·rw [List.getElem?_append_left (by omega)] at hv
      exact h3 i v hv
     ·rw [List.getElem?_append_right (by omega), fl] at hv
      simp only [List.flatMap_cons, List.flatMap_nil, List.append_nil] at hv
      obtain ⟨g1, g2⟩ := VRs_get (h6 ⟨fun _ _ => none, fun _ => none⟩)
      obtain ⟨c, g3, -⟩ := g2 _ _ hv
      refine ⟨c, ?_, fun m => ?_⟩
      ·have g4 := World.cells?_some h5
       have hlt : i - k * n < n := by
        have := (List.getElem?_eq_some_iff.1 hv).1
        rw [hlen] at this; exact this
       have g5 := g4.2.2 (i - k * n) hlt
       rw [g3] at g5
       rw [← g5]
       rw [add_add', show k * n + (i - k * n) = i by omega]
      ·obtain ⟨c', g6, g7⟩ := (VRs_get (h6 m)).2 _ _ hv
       rw [g3] at g6
       cases g6
       exact g7
  obtain ⟨L, h1, h2, h3⟩ := build len (Nat.le_refl _)
  exact ⟨L, .inr ⟨_, rfl, hl, by rw [flatMap_len hlen, h1], h3⟩, h1, h2, by omega⟩
end
theorem VRs_nil (m : Mp) : VRs m [] [] := by simp only [VRs]
theorem VRs_cons {m : Mp} {x : AV} {y : Value} {xs : List AV} {ys : List Value} (h : VR m x y) (k : VRs m xs ys) : VRs m (x :: xs) (y :: ys) := by simp only [VRs]; exact ⟨y, ys, rfl, h, k⟩
theorem VR_bool (m : Mp) (b : Bool) : VR m (.bool b) (.bool b) := by simp only [VR]
end Go.Proofs.Ytbmijiibfaacmaa.Am
set_option linter.unusedVariables false
set_option linter.unusedSimpArgs false
namespace Go.Proofs.Ytbmijiibfaacmaa.Am
open Go Go.ChangeShapes Go.WideShapes
theorem opn4 {H : Type} {enc : TypeId × Value → H} {w : World} {base : Nat} {sp : Nat → Bool} {held : Bool} {fuel : Nat} {cs : List Value} {y : DataW H × List MemPlace} (h : DataW.trod enc Try.prog w base sp held fuel 4 cs = some y) : ∃ x : Bool, (True) ∧ ∀ m, VRs m (e4 x) cs := by
 obtain ⟨n0, rfl, -⟩ := DataW.trod_bool Try.underlying4 h
 exact ⟨n0, trivial, fun m => VRs_cons (VR_bool m n0) (VRs_nil m)⟩
theorem splitMany_walk (v0 : Option Addr) (len0 cap0 : Nat) (z0 : List Bool) (v1 : Option Addr) (len1 cap1 : Nat) (z1 : List Bool) (W : World) (w0 : IsRowG 1 W v0 len0 cap0 (z0.flatMap e4)) (l0 : z0.length = len0) (q0 : ∀ x ∈ z0, True) (y0 : len0 ≤ maxLen) (w1 : IsRowG 1 W v1 len1 cap1 (z1.flatMap e4)) (l1 : z1.length = len1) (q1 : ∀ x ∈ z1, True) (y1 : len1 ≤ maxLen) : Calls Try.prog 9 #[.slice v0 len0 cap0, .slice v1 len1 cap1] W fun e W' => e = .returned (.bool true) ∧ RowKit.Below W.heap.size W W' := by
 obtain ⟨k, h⟩ := splitMany_true z0 z1 q0 (by rw [l0]; simpa [maxLen] using y0) q1 (by rw [l1]; simpa [maxLen] using y1)
 refine law_walk_fz (g9_ok k z0 z1 true h) W (fzOfG v0 (z0.flatMap e4) ++ (fzOfG v1 (z1.flatMap e4) ++ [])) ?_ ?_
 ·exact VRs_cons ((by rw [l0]; exact rowG_VR w0 (by decide) _ (([] : List (Nat × List AV))).length (fun h => fzOfG_get (([] : List (Nat × List AV))) _ h))) (VRs_cons ((by rw [l1]; exact rowG_VR w1 (by decide) _ ((fzOfG v0 (z0.flatMap e4))).length (fun h => fzOfG_get ((fzOfG v0 (z0.flatMap e4))) _ h))) (VRs_nil _))
 intro p hp
 rcases List.mem_append.1 hp with hp | hp
 ·obtain ⟨hne, rfl⟩ := fzOfG_mem hp
  exact rowG_froz w0 hne _
 rcases List.mem_append.1 hp with hp | hp
 ·obtain ⟨hne, rfl⟩ := fzOfG_mem hp
  exact rowG_froz w1 hne _
 cases hp
end Go.Proofs.Ytbmijiibfaacmaa.Am
namespace Go.Proofs.Ytbmijiibfaacmaa.splitMany
open Go.ChangeShapes Go.WideShapes Go.ChangeAt Go.RowKit
open Go.ChangeMaps (open_string shut_string)
set_option linter.unusedVariables false
theorem laidOut : laidOutB Try.prog = true := by kernel_rfl
theorem own : ownKnob Try.prog.godebug = none := by kernel_rfl
set_option maxRecDepth 100000 in
theorem lifted (os : Os) (started : os.Started) (H : Type) (enc : TypeId × Value → H) :
 ReturnsInHanded {} Try.checked os 9 .any (Rows.splitManySpec.pre6 enc Try.prog Try.f9 Rows.splitManyRow.domain false) (Rows.splitManySpec.post enc Try.prog Try.f9 false true false false) := by
 refine returnsInHanded_of_change_sized (C := Try.checked) own started (by kernel_rfl) Try.func9
  (ChangeSpec.witness6 (enc := enc) (C := Try.checked) false ⟨#[], #[.slice none 0 0, .slice none 0 0], []⟩ 8 (by kernel_rfl) (by kernel_rfl) (by kernel_rfl) (by kernel_rfl)) ?_
 intro W base args ds gs before hval0 hW hcnd hsz0 _
 have hsz : (DataW.weightsEach Try.prog (Try.f9.params.toList ++ Rows.splitManySpec.plain.varTypes Try.prog) (ds ++ gs)).all (· ≤ reachBytes) = true := hsz0
 have hval : ∀ (j : Nat) t v, Try.f9.params[j]? = some t → args[j]? = some v → Value.okWide Try.prog W .any base t v := hval0
 have hW' := hW
 obtain ⟨p, q, hA0, hV, rfl, hfz, hnd⟩ := hW
 have hA : DataW.TrodAll enc Try.prog W 0 (fun _ => true) true Try.f9.params.toList args.toList ds p := hA0
 rw [Try.params9] at hA hval hsz
 obtain ⟨v0, vs0, d0, ds0, p0, q0, hargs, rfl, rfl, h0, r0⟩ := trodAll_cons hA
 obtain ⟨v1, vs1, d1, ds1, p1, q1, rfl, rfl, rfl, h1, r1⟩ := trodAll_cons r0
 obtain ⟨rfl, rfl, rfl⟩ := trodAll_nil r1
 obtain rfl : args = #[v0, v1] := by cases args; simp_all
 obtain ⟨rfl, rfl⟩ := trodVars_none hV
 obtain ⟨v0a, len0, cap0, rfl⟩ := okWide_slice Try.underlying50 (hval 0 50 v0 rfl rfl)
 have k0 := h0
 have lt0 : ∀ x ∈ p0, x.block < W.heap.size := by obtain ⟨m, hm⟩ := k0; exact DataW.trod_lt m _ _ _ hm
 obtain ⟨z0, w0, l0, z0q, y0⟩ := Am.rowG_open (en := Am.e4) (n := 1) Try.underlying50 (by kernel_rfl) Am.e4_len (fun _ _ _ h => Am.opn4 h) h0
 obtain ⟨v1a, len1, cap1, rfl⟩ := okWide_slice Try.underlying50 (hval 1 50 v1 rfl rfl)
 have k1 := h1
 have lt1 : ∀ x ∈ p1, x.block < W.heap.size := by obtain ⟨m, hm⟩ := k1; exact DataW.trod_lt m _ _ _ hm
 obtain ⟨z1, w1, l1, z1q, y1⟩ := Am.rowG_open (en := Am.e4) (n := 1) Try.underlying50 (by kernel_rfl) Am.e4_len (fun _ _ _ h => Am.opn4 h) h1
 clear hA0 hval0 hsz0 hsz
 refine (Am.splitMany_walk v0a len0 cap0 z0 v1a len1 cap1 z1 W w0 l0 z0q y0 w1 l1 z1q y1).mono fun e W' ⟨he, bel⟩ => ?_
 subst he
 exact ⟨_, rfl, _, _, _, [], _, [], hW', trodAll_mk1 (shut_bool Try.underlying4 _), (trodAll_cons_mk (Below.trod laidOut (by kernel_rfl) (of_decide_eq_true (by kernel_rfl)) k0 bel lt0) (trodAll_cons_mk (Below.trod laidOut (by kernel_rfl) (of_decide_eq_true (by kernel_rfl)) k1 bel lt1) trodAll_mk0)), rfl, bel.frame _, fun h => by cases h⟩
theorem over : Rows.splitManyRow.holds Try.pinned (OpenSpec.ofChange Rows.splitManySpec) :=
 OpenClaim.holds_of_wide 9 Try.f9 rfl rfl rfl rfl rfl rfl rfl ⟨rfl, rfl, rfl, rfl, rfl⟩ rfl rfl rfl rfl rfl (by kernel_rfl) Try.func9 (by kernel_rfl)
  (of_decide_eq_true (by kernel_rfl)) (by unfold Func.isWrapper; first | (rw [if_pos (by decide +kernel)]; kernel_rfl) | (rw [if_neg (by decide +kernel)]; exact ⟨rfl, rfl⟩))
  (fun os started H enc _ => lifted os started H enc)
theorem proved : Rows.SplitManySaid := over
#print axioms proved
end Go.Proofs.Ytbmijiibfaacmaa.splitMany
namespace Go.Proofs.Ytbmijiibfaacmaa
theorem splitMany_holds : Rows.SplitManySaid := splitMany.proved
end Go.Proofs.Ytbmijiibfaacmaa
